import Derived.Test.YtjomnbdjajjgfaaGreatDoorWKw
set_option linter.unusedVariables false
set_option linter.unusedSimpArgs false
set_option maxRecDepth 100000
set_option maxHeartbeats 16000000
namespace Go.Proofs.YtjomnbdjajjgfaaGreatDoor
variable {t:Int} {s:List Int} {ks:List PT} {b4 n:Nat}
section
open Go.RowKit
attribute [local go_sem ↓] Go.wp_at_zero Go.wp_at_succ
attribute [local go_sem] Oper.semAt_some
structure Cu (W:World) (B:Nat) (ok:Nat->Prop) (g:Nat) (v:Value) (acc:List PT) (cs:List Value):Prop where
 own:W.ownsRow B 41 3 v acc.length cs
 each:∀(i:Nat) (hi:i<acc.length),zM W (fun b=>(ok b\/B<=b)/\b≠g/\v.ownBlock≠some b) (.agg #[cs.getD (i*3) undef,cs.getD (i*3+1) undef,cs.getD (i*3+2) undef]) acc[i]
 ne:v.ownBlock≠some g
section
variable {W W':World} {B g:Nat} {ok:Nat->Prop} {v v':Value} {acc:List PT} {cs:List Value} {p:PT} {a b c:Value}
theorem Cu.nil:Cu W B ok g (.slice none 0 0) [] []:=⟨World.ownsRow_nil _ _ _ _,fun i o=>absurd o (by simp),by simp [Value.ownBlock]⟩
theorem Cu.same (h:Cu W B ok g v acc cs) (E:∀b,b<W.heap.size->b≠g->W'.heap[b]?=W.heap[b]?):Cu W' B ok g v acc cs:=
 ⟨zv h.own fun k D=>E k (World.ownsRow.lt h.own k D).2 (fun e=>by subst e;exact h.ne D),fun i I=>(h.each i I).keepW (fun b G o=>E b o G.2.1) fun _ h=>h,h.ne⟩
theorem Cu.app (h:Cu W B ok g v acc cs) (hp:zM W (fun b=>(ok b\/B<=b)/\b≠g/\v.ownBlock≠some b) (.agg #[a,b,c]) p) (I:g<W.heap.size) (O:W'.ownsRow B 41 3 v' (acc.length+1) (cs++[a,b,c])) (K:W.grownBy W' v.ownBlock)
  (Q:v'.ownBlock=v.ownBlock\/v'.ownBlock=some W.heap.size):Cu W' B ok g v' (acc++[p]) (cs++[a,b,c]):=by
 have D:cs.length=acc.length*3:=h.own.1
 have G:∀k,k<W.heap.size->v.ownBlock≠some k->v'.ownBlock≠some k:=fun k o h1=>by
  rcases Q with h2 | h2
  ·rw [h2];exact h1
  ·rw [h2];intro e;injection e with e;omega
 refine ⟨by rw [DZ];exact O,fun i L=>?_,G g I h.ne⟩;by_cases M:i<acc.length
 ·rw [BE (by omega),BE (by omega),BE (by omega),List.getElem_append_left M];exact (h.each i M).bound.keepW (fun k o E=>K.block k E (fun e=>o.1.2.2 e.symm)) (fun k o=>⟨o.1.1,o.1.2.1,G k o.2 o.1.2.2⟩)
 ·have J:i=acc.length:=by rw [DZ,Er] at L;omega
  subst J;have e0:(cs++[a,b,c]).getD (acc.length*3) undef=a:=by rw [DP,DX (by omega),D,Nat.sub_self];rfl
  have e1:(cs++[a,b,c]).getD (acc.length*3+1) undef=b:=by rw [DP,DX (by omega),D,Nat.add_sub_cancel_left];rfl
  have e2:(cs++[a,b,c]).getD (acc.length*3+2) undef=c:=by rw [DP,DX (by omega),D,Nat.add_sub_cancel_left];rfl
  rw [e0,e1,e2];have:(acc++[p])[acc.length]'L=p:=by simp
  rw [this];exact hp.bound.keepW (fun k o E=>K.block k E (fun e=>o.1.2.2 e.symm)) (fun k o=>⟨o.1.1,o.1.2.1,G k o.2 o.1.2.2⟩)
end
theorem few_zero:Ad 0 (.node t s ks)=.node t (s.take 20) []:=rfl
theorem few_succ:Ad (n+1) (.node t s ks)=.node t (s.take 20) ((ks.take 4).map (Ad n)):=rfl
def kn (n:Nat) (ks:List PT):Nat:=if n=0 then 0 else min ks.length 4
theorem few_eq (n:Nat) (t:Int) (s:List Int) (ks:List PT):Ad n (.node t s ks)=.node t (s.take 20) ((ks.take (kn n ks)).map (Ad (n - 1))):=by
 cases n with
 | zero=>simp [few_zero,kn]
 | succ n=>
  rw [few_succ]
  have:ks.take (kn (n+1) ks)=ks.take 4:=by
   unfold kn;rw [if_neg (by omega)];by_cases h:ks.length<=4
   ·rw [Nat.min_eq_left h,Ec,List.take_of_length_le h]
   ·rw [Nat.min_eq_right (by omega)]
  rw [this];rfl
theorem ints_take29 {w:World} {ok:Nat->Prop} {A:Option Addr} {c N:Nat} {l:List Int} (h:zk w ok (.slice A n c) l) (J:N<=n):zk w ok (.slice A N c) (l.take N):=by
 obtain ⟨A',c',e,K,L,I⟩:=h;injection e with e1 e2 e3;subst e1 e2 e3;have D:(l.take N).length=N:=by rw [EJ];omega
 refine ⟨A,c,by rw [D],by omega,by rw [EB,Nat.mul_one],fun hp=>?_⟩;obtain ⟨b,off,e,G,E⟩:=I (by omega);refine ⟨b,off,e,G,fun j u o=>E j u ?_⟩;rw [List.map_take] at o;rw [List.getElem?_take] at o
 split at o
 ·exact o
 ·cases o
def FewR (w:World) (ok:Nat->Prop) (p:PT) (e:Ending) (w':World):Prop:=∃v',e=.returned v'/\za w w'/\zM w' (fun b=>ok b\/w.heap.size<=b) v' p
theorem few_fin {w w1 wz WZ:World} {ok:Nat->Prop} {v:Value} {p:PT} (o:za w w1) (L:w.heap.size<=b4/\b4<w1.heap.size) (G:za w1 wz) (J:zM wz (fun b=>(ok b/\b<w.heap.size)\/w1.heap.size<=b) v p) (D:Below b4 wz WZ) (K:∀k,k<wz.heap.size->k≠b4->WZ.heap[k]?=wz.heap[k]?):
  FewR w ok p (.returned v) WZ:=
 ⟨v,rfl,below_le (o.trans G) D L.1,J.keepW (fun b E I=>K b I (by rcases E with ⟨_,h⟩ | h <;> omega)) (fun b E=>by rcases E with ⟨h,_⟩ | h;exact .inl h;exact .inr (by omega))⟩
theorem few_end {a:Act} {W:World} {x y z:Value} {R:Ending->World->Prop} (D:a.tmps[4]?=some (.pointer (some ⟨b4,0,none⟩))) (E:a.defers=[]) (o:zd W b4 41 #[x,y,z]) (h:R (.returned (.agg #[x,y,z])) W):bodyPost Tryz.prog Tryz.f22 R Exit.ret a W:=by
 have c0:=o.cell (k:=0) rfl;have c1:=o.cell (k:=1) rfl;have c2:=o.cell (k:=2) rfl;have e:a.tmps.getD 4 undef=.pointer (some ⟨b4,0,none⟩):=by rw [Array.getD_eq_getD_getElem?,D];rfl
 exact EL (v:=.agg #[x,y,z]) (by simp [results,Tryz.results22,go_sem,D,e,c0,c1,c2]) E h
theorem few_calls:∀(N n:Nat) (ok:Nat->Prop) (v:Value) (p:PT) (w:World),n<N->n<=4->zM w ok v p->p.In->Calls Tryz.prog 22 #[v,.int .i64 n] w (FewR w ok (Ad n p))
 | 0,n,ok,v,p,w,hN,_,_,_=>by omega
 | N+1,n,ok,v,.node t s ks,w,hN,n6,h,j6=>by
  have IH:=zh (few_calls N)
  cases h.bound with
  | mk hs hk he=>
   rename_i vs vk0 cs0
   unfold PT.In at j6;obtain ⟨-,-,n7,n5,f4⟩:=j6;have k8:=zh (inL_mem f4);have HS:=zh hs;have k7:=zh he;obtain ⟨As,cs',rfl,n1,-⟩:=hs;obtain ⟨Ak,ck,rfl,n0,j9⟩:=hk;have l3:=zh j9;have j0:Hid (Ad n (.node t s ks)=.node t (s.take 20) ((ks.take (kn n ks)).map (Ad (n - 1)))):=few_eq n t s ks;rw [j0.out]
   have L:Hid (kn n ks<=ks.length/\kn n ks<=4/\(∀j,j<kn n ks->0<n)/\(0<n->∀j,j<ks.length->j<4->j<kn n ks)):=by
    (show _/\_)
    unfold kn
    split
    ·exact ⟨by omega,by omega,fun j h=>by omega,fun h=>by omega⟩
    ·exact ⟨by omega,by omega,fun j _=>by omega,fun _ j h1 h2=>by omega⟩
   obtain ⟨K,o⟩:=EY (kn n ks);rw [<-o] at L⊢;clear j9 he o j0 h f4
   go_enter Tryz.func22,Tryz.ntmps22
   go_upto_region 1 with fail;refine fin_wp w [_,_] fun w1 g7 hB=>?_
   have V:zd w1 w.heap.size 41 #[.int .i64 t,.slice As s.length cs',.slice Ak ks.length ck]:=hB 0 _ rfl;have e9:zd w1 (w.heap.size+1) 41 #[.int .i64 0,.slice none 0 0,.slice none 0 0]:=hB 1 _ rfl;have e3:=zc e9;obtain ⟨b4,a5⟩:∃b,b=w.heap.size+1:=⟨_,rfl⟩;obtain ⟨b2,i0⟩:∃b,b=w.heap.size:=⟨_,rfl⟩;rw [<-i0] at V;rw [<-a5] at e9 e3;rw [<-a5,<-i0];have a0:=zh g7;have c8:Hid (w.heap.size<=b4/\b4<w1.heap.size):=⟨by omega,e3⟩;have HZ:=zh e9;have p0:=za.rule (V.cell (k:=0) rfl);have p1:=za.rule (V.cell (k:=1) rfl);have p2:=za.rule (V.cell (k:=2) rfl);obtain ⟨S,hS⟩:∃S:Nat,S=min s.length 20:=⟨_,rfl⟩;have m0:min (s.length:Int) 20=(S:Int):=by omega
   have l8:(S:Int)<=(s.length:Int):=by omega
   have l9:(S:Int)<=(cs':Int):=by omega
   have l7:(0:Int)<=(S:Int):=by omega
   have l5:Hid (s.take 20=s.take S):=by
    (show _=_)
    rw [hS];by_cases hh:s.length<=20
    ·rw [Nat.min_eq_left hh,Ec,List.take_of_length_le hh]
    ·rw [Nat.min_eq_right (by omega)]
   have l4:Hid (zk w1 (fun b=>ok b/\b<w.heap.size) (.slice As S cs') (s.take S)):=ints_take29 (HS.out.below g7) (by omega);have j1:Hid ((s.take S).length=S):=by (show _=_);rw [EJ];omega
   have G:za w1 w1:=za.refl w1;clear g7 hB V e9 e3 a5 i0 hS;refine Eh (S:=(fun W=>za w1 W)) zI (G.drew) fun zH=>?_;have I:za w1 w1.drew:=zH;generalize w1.drew=wd at zH I⊢;refine zg 0 zH ?_;refine zg 1 zH ?_;simp only [zb,DN];refine zg 2 zH ?_;refine zg 3 zH ?_;simp only [zb,DN];refine zg 4 zH ?_;refine zg 5 zH ?_;simp only [zb,DN];refine zg 6 zH ?_;refine zg 7 zH ?_;simp only [zb,DN];refine zg 8 zH ?_;refine zg 9 zH ?_;simp only [zb,DN];refine AD 10 fun K o=>?_;go_simp;have c0:=zd.new wd #[.int .i64 0,.slice none 0 0,.slice none 0 0] 41 (g:=wd.heap.size) rfl;have h9:za w1 (wd.alloc (.cells #[.int .i64 0,.slice none 0 0,.slice none 0 0] 41)):=za.alloc zH _;have O:Hid (w1.heap.size<=wd.heap.size):=Below.size zH;generalize wd.alloc _=wg at*;generalize wd.heap.size=gp at*;go_simp;refine EZ o (h9) fun zH=>?_;clear o K;try simp only [zb,DN]
   refine AD 11 fun K o=>?_;have y0:=c0.cell (k:=0) rfl;have y1:=c0.cell (k:=1) rfl;have y2:=c0.cell (k:=2) rfl;have yf:∀j,wg.frozen? ⟨gp,j,none⟩=false:=fun j=>c0.frozen j
   go_simp;have h8:za w1 (((wg.setCell ⟨gp,0,none⟩ (.int .i64 t)).setCell ⟨gp,1,none⟩ (.slice As S cs')).setCell ⟨gp,2,none⟩ (.slice none 0 0)):=((Below.setCell h9 (p:=⟨gp,0,none⟩) O.out _).setCell (p:=⟨gp,1,none⟩) O.out _).setCell (p:=⟨gp,2,none⟩) O.out _;have f9:Hid (zd (((wg.setCell ⟨gp,0,none⟩ (.int .i64 t)).setCell ⟨gp,1,none⟩ (.slice As S cs')).setCell ⟨gp,2,none⟩ (.slice none 0 0)) gp 41 #[.int .i64 t,.slice As S cs',.slice none 0 0]):=((c0.set (k:=0) _).set (k:=1) _).set (k:=2) _;refine EZ o h8 fun zH=>?_;clear o K y0 y1 y2 yf;have g4:=zh h8;generalize ((wg.setCell ⟨gp,0,none⟩ (.int .i64 t)).setCell ⟨gp,1,none⟩ (.slice As S cs')).setCell ⟨gp,2,none⟩ (.slice none 0 0)=w3 at f9 g4⊢;clear zH I c0 h9 h8;refine Ev (by kernel_rfl) ?_ _;clear G m0 l8 l9 l7
   go_wp2_with fail
   go_loopw [6] (fun i wr=>∃(j:Nat) (vk:Value) (cs:List Value),i=.int .i64 j/\j<=K/\Hid (za w1 wr)/\Hid (zd wr gp 41 #[.int .i64 t,.slice As S cs',vk])/\Hid (Cu wr w1.heap.size (fun b=>ok b/\b<w.heap.size) gp vk ((ks.take j).map (Ad (n - 1))) cs)) (fun i _=>K - (intOf i).toNat)
   case atStart=>exact ⟨0,.slice none 0 0,[],rfl,Ef _,g4.out,f9.out,Cu.nil⟩
   clear g4 f9
   case round=>
    obtain ⟨j,vk,cs,rfl,hj,m1,D,J⟩:=hrel;obtain ⟨wq,rfl⟩:∃W:World,W=wr:=⟨_,rfl⟩;have G:za w1 wq:=m1.out;by_cases e0:j<K
    ·have U:j<ks.length:=by have:=L.out.1;omega
     have h4:(j:Int)<4:=by have:=L.out.2.1;omega
     have f0:0<n:=L.out.2.2.1 j e0;have d1:decide ((j:Int)<(ks.length:Int))=true:=DU (by omega);have d2:decide ((j:Int)<4)=true:=DU h4;have d3:decide ((0:Int)<(n:Int))=true:=DU (by omega);have d4:decide (0<n)=true:=DU f0;have d5:decide (j<ks.length)=true:=DU U;have d6:decide (j<4)=true:=DU (by omega);have m2:IntKind.i64.wrap ((n:Int) - 1)=((n - 1:Nat):Int):=by rw [Em];omega
     have n3:(0:Int)<=(j:Int):=by omega
     have n4:(j:Int)<(ks.length:Int):=by omega
     have Q:Hid ((ks.take (j+1)).map (Ad (n - 1))=(ks.take j).map (Ad (n - 1))++[Ad (n - 1) ks[j]]):=by (show _=_);rw [DY U,EI];rfl
     have a2:Hid (((ks.take j).map (Ad (n - 1))).length=j):=by (show _=_);rw [EB,EJ];omega
     have g0:=zh (k7.out j U);have f8:Hid (ks[j].In):=k8.out _ (DS U);obtain ⟨bk,offk,rfl,k0,k1,k2⟩:=kidsAt l3.out U;have q0:=za.rule (a0.out.cell k0);have q1:=za.rule (a0.out.cell k1);have q2:=za.rule (a0.out.cell k2);have c9:Hid (n - 1<N/\n - 1<=4):=⟨by omega,by omega⟩;obtain ⟨kd,j8⟩:=EY (ks[j]);rw [<-j8] at Q g0 f8;obtain ⟨M,hM⟩:=EY (n - 1);rw [<-hM] at m2 Q a2 c9 J⊢;obtain ⟨acc,f3⟩:=EY ((ks.take j).map (Ad M));rw [<-f3] at Q a2 J;clear j8 k0 k1 k2 hM f3 U f0 h4;go_upto_region 5 with fail;refine Eh (S:=(fun W=>za w1 W)) zI (G.drew) fun zH=>?_;have I:za wq wq.drew:=(za.refl wq).drew;generalize wq.drew=wd at zH I⊢;refine zg 0 zH ?_;refine zg 2 zH ?_;simp only [zb,DN];refine zg 3 zH ?_;refine zg 4 zH ?_;simp only [zb,DN];refine zg 5 zH ?_;refine zg 6 zH ?_;simp only [zb,DN];refine zg 7 zH ?_;refine zg 8 zH ?_;simp only [zb,DN];refine rdA [1,9] ?_;refine Es rfl (fun K o=>?_) ?_
     ·have cg1:wd.cell? ⟨gp,2,none⟩=some vk:=(D.out.ext (I)).cell (k:=2) rfl;go_simp;clear cg1;refine EZ o (G.trans (I)) fun zH=>?_;clear o K;try simp only [zb,DN]
      refine AD 9 fun K o=>?_;go_simp;go_at_call 22;refine (IH.out M _ _ kd wd c9.out.1 c9.out.2 (g0.out.ext (a0.out.trans (G.trans (I)))) f8.out).mono ?_;rintro e w2 ⟨v2,rfl,j3,g8⟩;obtain ⟨As2,cs2,Ak2,ck2,rfl,-⟩:=g8.form;have i4:Hid (za wq w2):=za.trans (I) j3
      have l0:Hid (zM w2 (fun b=>((ok b/\b<w.heap.size)\/w1.heap.size<=b)/\b≠gp/\vk.ownBlock≠some b) _ (Ad M kd)):=g8.wk fun b hb e0=>by
       have h1:=O.out;have h2:=c8.out;have h3:=zc D.out;have h4:=Below.size (I);have h5:=Below.size G;have h6:vk.ownBlock=some b->w1.heap.size<=b/\b<wq.heap.size:=fun e=>World.ownsRow.lt J.out.own b e
       rcases hb with ⟨hb,V⟩ | hb
       ·exact ⟨.inl ⟨hb,V⟩,by omega,fun e=>by have:=h6 e;omega⟩
       ·exact ⟨.inr (by omega),by omega,fun e=>by have:=h6 e;omega⟩
      clear j3 g8;refine EZ o (G.trans i4.out) fun zH=>?_;clear o K;try simp only [zb,DN]
      refine AD 10 fun K o=>?_;go_simp;have e7:=zd.new w2 #[.int .i64 (Ad M kd).task,.slice As2 (Ad M kd).side.length cs2,.slice Ak2 (Ad M kd).kids.length ck2] 41 (g:=w2.heap.size) rfl;have hA3:za w2 (w2.alloc (.cells #[.int .i64 (Ad M kd).task,.slice As2 (Ad M kd).side.length cs2,.slice Ak2 (Ad M kd).kids.length ck2] 41)):=(za.refl w2).alloc _;generalize w2.alloc _=w3 at e7 hA3⊢;generalize w2.heap.size=g3 at e7⊢;have k5:=zh e7;have a6:Hid (za wq w3):=za.trans (i4.out) hA3;have l1:=zh (l0.out.ext hA3);clear e7 hA3;refine EZ o (G.trans a6.out) fun zH=>?_;clear o K;try simp only [zb,DN]
      refine AD 11 fun K o=>?_;have e6:Hid (Cu w3 w1.heap.size (fun b=>ok b/\b<w.heap.size) gp vk acc cs):=J.out.same (fun b hb _=>Below.block (a6.out) b hb);refine zW (ok:=fun _=>True) (by rfl) w3 _ _ CW (by rfl) w1.heap.size acc.length 1 cs _ vk _ (by rfl) (by rfl) e6.out.own (Cd k5.out) (fun u hu=>by simp at hu;rcases hu with rfl | rfl | rfl <;> rfl) (by have h1:=Below.size G;have h2:=Below.size (a6.out);omega) (by have:=a2.out;have:=L.out;unfold maxLen;omega) (by have:=a2.out;have:=L.out;omega) ?_;intro v4 w4 i1 a5 k3;have i5:Hid (gp<w3.heap.size):=Et (zc D.out) (Below.size (a6.out));have k9:=zh (e6.out.app l1.out i5.out i1 a5 k3);have e5:Hid (za w1 w4):=Below.grown (G.trans (a6.out)) a5 (Below.size (G.trans (a6.out))) (fun k hk=>(World.ownsRow.lt e6.out.own k hk).1);obtain ⟨A4,c4,e4,-,-⟩:=Ae.of_own i1;subst e4;have d7:Hid (zd w4 gp 41 #[.int .i64 t,.slice As S cs',vk]):=(a5.block gp i5.out (fun e=>e6.out.ne e.symm)).trans (D.out.ext (a6.out));clear i1 a5 k3;refine EZ o (e5.out) fun zH=>?_;clear o K;try simp only [zb,DN]
      refine AD 12 fun K o=>?_;go_simp;refine EZ o (e5.out) fun zH=>?_;clear o K;try simp only [zb,DN]
      refine AD 13 fun K o=>?_;have cg6:=d7.out.cell (k:=2) rfl;have fg6:=d7.out.frozen 2;go_simp;clear cg6 fg6;refine EZ o (Below.setCell (e5.out) (p:=⟨gp,2,none⟩) O.out (.slice A4 (acc.length+1) c4)) fun zH=>?_;clear o K;try simp only [zb,DN]
      refine Ev (by kernel_rfl) ?_ _;have a4:Hid (za w1 (w4.setCell ⟨gp,2,none⟩ (.slice A4 (acc.length+1) c4))):=Below.setCell (e5.out) (p:=⟨gp,2,none⟩) O.out (.slice A4 (acc.length+1) c4);have a3:Hid (zd (w4.setCell ⟨gp,2,none⟩ (.slice A4 (acc.length+1) c4)) gp 41 #[.int .i64 t,.slice As S cs',(.slice A4 (acc.length+1) c4)]):=d7.out.set (k:=2) (.slice A4 (acc.length+1) c4);have a1:=zh (k9.out.same (W':=w4.setCell ⟨gp,2,none⟩ (.slice A4 (acc.length+1) c4)) (fun b _ hb=>AO b hb));generalize w4.setCell ⟨gp,2,none⟩ (.slice A4 (acc.length+1) c4)=wz at a4 a3 a1⊢;go_wp2;go_roundw
      case rel=>exact ⟨j+1,_,_,by go_num,by omega,a4.out,a3.out,by (show Cu _ _ _ _ _ _ _);rw [Q.out];exact a1.out⟩
      case measure=>simp [intOf];omega
     refine Es rfl (fun K o=>?_) .nil;go_simp;go_at_call 22;refine (IH.out M _ _ kd wd c9.out.1 c9.out.2 (g0.out.ext (a0.out.trans (G.trans (I)))) f8.out).mono ?_;rintro e w7 ⟨v7,rfl,j4,h7⟩;obtain ⟨As7,cs7,Ak7,ck7,rfl,-⟩:=h7.form;have c7:Hid (za wq w7):=za.trans (I) j4
     have i9:Hid (zM w7 (fun b=>((ok b/\b<w.heap.size)\/w1.heap.size<=b)/\b≠gp/\vk.ownBlock≠some b) _ (Ad M kd)):=h7.wk fun b hb e0=>by
      have h1:=O.out;have h2:=c8.out;have h3:=zc D.out;have h4:=Below.size (I);have h5:=Below.size G;have h6:vk.ownBlock=some b->w1.heap.size<=b/\b<wq.heap.size:=fun e=>World.ownsRow.lt J.out.own b e
      rcases hb with ⟨hb,V⟩ | hb
      ·exact ⟨.inl ⟨hb,V⟩,by omega,fun e=>by have:=h6 e;omega⟩
      ·exact ⟨.inr (by omega),by omega,fun e=>by have:=h6 e;omega⟩
     clear j4 h7;refine EZ o (G.trans c7.out) fun zH=>?_;clear o K;try simp only [zb,DN]
     refine rdA [1,10] ?_;refine Es rfl (fun K o=>?_) ?_
     ·have cg8:w7.cell? ⟨gp,2,none⟩=some vk:=(D.out.ext (c7.out)).cell (k:=2) rfl;go_simp;clear cg8;refine EZ o (G.trans (c7.out)) fun zH=>?_;clear o K;try simp only [zb,DN]
      refine AD 10 fun K o=>?_;go_simp;have e8:=zd.new w7 #[.int .i64 (Ad M kd).task,.slice As7 (Ad M kd).side.length cs7,.slice Ak7 (Ad M kd).kids.length ck7] 41 (g:=w7.heap.size) rfl;have hA9:za w7 (w7.alloc (.cells #[.int .i64 (Ad M kd).task,.slice As7 (Ad M kd).side.length cs7,.slice Ak7 (Ad M kd).kids.length ck7] 41)):=(za.refl w7).alloc _;generalize w7.alloc _=w9 at e8 hA9⊢;generalize w7.heap.size=g9 at e8⊢;have k6:=zh e8;have a7:Hid (za wq w9):=za.trans (c7.out) hA9;have l2:=zh (i9.out.ext hA9);clear e8 hA9;refine EZ o (G.trans a7.out) fun zH=>?_;clear o K;try simp only [zb,DN]
      refine AD 11 fun K o=>?_;have b5:Hid (Cu w9 w1.heap.size (fun b=>ok b/\b<w.heap.size) gp vk acc cs):=J.out.same (fun b hb _=>Below.block (a7.out) b hb);refine zW (ok:=fun _=>True) (by rfl) w9 _ _ CW (by rfl) w1.heap.size acc.length 1 cs _ vk _ (by rfl) (by rfl) b5.out.own (Cd k6.out) (fun u hu=>by simp at hu;rcases hu with rfl | rfl | rfl <;> rfl) (by have h1:=Below.size G;have h2:=Below.size (a7.out);omega) (by have:=a2.out;have:=L.out;unfold maxLen;omega) (by have:=a2.out;have:=L.out;omega) ?_;intro v10 w10 e1 b8 f6;have f1:Hid (gp<w9.heap.size):=Et (zc D.out) (Below.size (a7.out));have i6:=zh (b5.out.app l2.out f1.out e1 b8 f6);have b1:Hid (za w1 w10):=Below.grown (G.trans (a7.out)) b8 (Below.size (G.trans (a7.out))) (fun k hk=>(World.ownsRow.lt b5.out.own k hk).1);obtain ⟨A10,c10,e10,-,-⟩:=Ae.of_own e1;subst e10;have a8:Hid (zd w10 gp 41 #[.int .i64 t,.slice As S cs',vk]):=(b8.block gp f1.out (fun e=>b5.out.ne e.symm)).trans (D.out.ext (a7.out));clear e1 b8 f6;refine EZ o (b1.out) fun zH=>?_;clear o K;try simp only [zb,DN]
      refine AD 12 fun K o=>?_;go_simp;refine EZ o (b1.out) fun zH=>?_;clear o K;try simp only [zb,DN]
      refine AD 13 fun K o=>?_;have cg12:=a8.out.cell (k:=2) rfl;have fg12:=a8.out.frozen 2;go_simp;clear cg12 fg12;refine EZ o (Below.setCell (b1.out) (p:=⟨gp,2,none⟩) O.out (.slice A10 (acc.length+1) c10)) fun zH=>?_;clear o K;try simp only [zb,DN]
      refine Ev (by kernel_rfl) ?_ _;have a4:Hid (za w1 (w10.setCell ⟨gp,2,none⟩ (.slice A10 (acc.length+1) c10))):=Below.setCell (b1.out) (p:=⟨gp,2,none⟩) O.out (.slice A10 (acc.length+1) c10);have a3:Hid (zd (w10.setCell ⟨gp,2,none⟩ (.slice A10 (acc.length+1) c10)) gp 41 #[.int .i64 t,.slice As S cs',(.slice A10 (acc.length+1) c10)]):=a8.out.set (k:=2) (.slice A10 (acc.length+1) c10);have a1:=zh (i6.out.same (W':=w10.setCell ⟨gp,2,none⟩ (.slice A10 (acc.length+1) c10)) (fun b _ hb=>AO b hb));generalize w10.setCell ⟨gp,2,none⟩ (.slice A10 (acc.length+1) c10)=wz at a4 a3 a1⊢;go_wp2;go_roundw
      case rel=>exact ⟨j+1,_,_,by go_num,by omega,a4.out,a3.out,by (show Cu _ _ _ _ _ _ _);rw [Q.out];exact a1.out⟩
      case measure=>simp [intOf];omega
     refine Es rfl (fun K o=>?_) .nil;go_simp;have b7:=zd.new w7 #[.int .i64 (Ad M kd).task,.slice As7 (Ad M kd).side.length cs7,.slice Ak7 (Ad M kd).kids.length ck7] 41 (g:=w7.heap.size) rfl;have hA13:za w7 (w7.alloc (.cells #[.int .i64 (Ad M kd).task,.slice As7 (Ad M kd).side.length cs7,.slice Ak7 (Ad M kd).kids.length ck7] 41)):=(za.refl w7).alloc _;generalize w7.alloc _=w13 at b7 hA13⊢;generalize w7.heap.size=g13 at b7⊢;have i3:=zh b7;have E:Hid (za wq w13):=za.trans (c7.out) hA13;have i8:=zh (i9.out.ext hA13);clear b7 hA13;refine EZ o (G.trans E.out) fun zH=>?_;clear o K;try simp only [zb,DN]
     refine AD 1 fun K o=>?_;have cg14:w13.cell? ⟨gp,2,none⟩=some vk:=(D.out.ext (E.out)).cell (k:=2) rfl;go_simp;clear cg14;refine EZ o (G.trans (E.out)) fun zH=>?_;clear o K;try simp only [zb,DN]
     refine AD 11 fun K o=>?_;have b6:Hid (Cu w13 w1.heap.size (fun b=>ok b/\b<w.heap.size) gp vk acc cs):=J.out.same (fun b hb _=>Below.block (E.out) b hb);refine zW (ok:=fun _=>True) (by rfl) w13 _ _ CW (by rfl) w1.heap.size acc.length 1 cs _ vk _ (by rfl) (by rfl) b6.out.own (Cd i3.out) (fun u hu=>by simp at hu;rcases hu with rfl | rfl | rfl <;> rfl) (by have h1:=Below.size G;have h2:=Below.size (E.out);omega) (by have:=a2.out;have:=L.out;unfold maxLen;omega) (by have:=a2.out;have:=L.out;omega) ?_;intro v15 w15 e2 b9 f7;have f2:Hid (gp<w13.heap.size):=Et (zc D.out) (Below.size (E.out));have i7:=zh (b6.out.app i8.out f2.out e2 b9 f7);have b3:Hid (za w1 w15):=Below.grown (G.trans (E.out)) b9 (Below.size (G.trans (E.out))) (fun k hk=>(World.ownsRow.lt b6.out.own k hk).1);obtain ⟨A15,c15,e15,-,-⟩:=Ae.of_own e2;subst e15;have a9:Hid (zd w15 gp 41 #[.int .i64 t,.slice As S cs',vk]):=(b9.block gp f2.out (fun e=>b6.out.ne e.symm)).trans (D.out.ext (E.out));clear e2 b9 f7;refine EZ o (b3.out) fun zH=>?_;clear o K;try simp only [zb,DN]
     refine AD 12 fun K o=>?_;go_simp;refine EZ o (b3.out) fun zH=>?_;clear o K;try simp only [zb,DN]
     refine AD 13 fun K o=>?_;have cg17:=a9.out.cell (k:=2) rfl;have fg17:=a9.out.frozen 2;go_simp;clear cg17 fg17;refine EZ o (Below.setCell (b3.out) (p:=⟨gp,2,none⟩) O.out (.slice A15 (acc.length+1) c15)) fun zH=>?_;clear o K;try simp only [zb,DN]
     refine Ev (by kernel_rfl) ?_ _;have a4:Hid (za w1 (w15.setCell ⟨gp,2,none⟩ (.slice A15 (acc.length+1) c15))):=Below.setCell (b3.out) (p:=⟨gp,2,none⟩) O.out (.slice A15 (acc.length+1) c15);have a3:Hid (zd (w15.setCell ⟨gp,2,none⟩ (.slice A15 (acc.length+1) c15)) gp 41 #[.int .i64 t,.slice As S cs',(.slice A15 (acc.length+1) c15)]):=a9.out.set (k:=2) (.slice A15 (acc.length+1) c15);have a1:=zh (i7.out.same (W':=w15.setCell ⟨gp,2,none⟩ (.slice A15 (acc.length+1) c15)) (fun b _ hb=>AO b hb));generalize w15.setCell ⟨gp,2,none⟩ (.slice A15 (acc.length+1) c15)=wz at a4 a3 a1⊢;go_wp2;go_roundw
     case rel=>exact ⟨j+1,_,_,by go_num,by omega,a4.out,a3.out,by (show Cu _ _ _ _ _ _ _);rw [Q.out];exact a1.out⟩
     case measure=>simp [intOf];omega
    ·have j7:j=K:=by omega
     have b0:¬ (j<ks.length)\/¬ (j<4)\/¬ (0<n):=by
      by_cases h1:j<ks.length
      ·by_cases h2:j<4
       ·exact .inr (.inr fun h3=>e0 (L.out.2.2.2 h3 j h1 h2))
       ·exact .inr (.inl h2)
      ·exact .inl h1
     rw [j7] at J
     have g1:Hid (zM wq (fun b=>(ok b/\b<w.heap.size)\/w1.heap.size<=b) (.agg #[.int .i64 t,.slice As S cs',vk]) (.node t (s.take 20) ((ks.take K).map (Ad (n - 1))))):=by
      (show zM _ _ _ _)
      rw [l5.out];refine .mk (cs:=cs) ?_ ((Ae.of_own J.out.own).weaken fun b hb=>.inr hb) (fun i hi=>(J.out.each i hi).wk fun b hb _=>hb.1);have h:=(l4.out.below G).weaken (ok':=fun b=>(ok b/\b<w.heap.size)\/w1.heap.size<=b) fun b hb=>.inl hb
      have e:(s.take S).length=S:=j1.out;exact h
     have g5:=zh G;obtain ⟨Ak,ck',evk,-,-⟩:=Ae.of_own J.out.own;obtain ⟨NK,j5⟩:∃N,N=((ks.take K).map (Ad (n - 1))).length:=⟨_,rfl⟩;rw [<-j5] at evk;clear j5;subst evk;have y0:=D.out.cell (k:=0) rfl;have y1:=D.out.cell (k:=1) rfl;have y2:=D.out.cell (k:=2) rfl;have hZ:=HZ.out.ext G;have z0:=hZ.cell (k:=0) rfl;have z1:=hZ.cell (k:=1) rfl;have z2:=hZ.cell (k:=2) rfl;have zf:∀j,wq.frozen? ⟨b4,j,none⟩=false:=fun j=>hZ.frozen j
     have g6:=zh hZ;clear hZ J D j7 e0;by_cases h1:j<ks.length
     ·have d1:decide ((j:Int)<(ks.length:Int))=true:=DU (by omega);have d5:decide (j<ks.length)=true:=DU h1;by_cases h2:j<4
      ·have d2:decide ((j:Int)<4)=true:=DU (by omega);have d6:decide (j<4)=true:=DU h2;have f0:n=0:=by omega
       have d3:decide ((0:Int)<(n:Int))=false:=DV (by omega);have d4:decide (0<n)=false:=DV (by omega);clear f0 b0
       go_wp2_with fail
       refine CF (P:=fun W=>bodyPost Tryz.prog Tryz.f22 _ Exit.ret _ W) (g2:=b4) ?_ g6.out;intro WZ d9 d8 hk;exact few_end rfl rfl d9 (few_fin a0.out c8.out g5.out g1.out d8 hk)
      ·have d2:decide ((j:Int)<4)=false:=DV (by omega);have d6:decide (j<4)=false:=DV h2;clear b0
       go_wp2_with fail
       refine CF (P:=fun W=>bodyPost Tryz.prog Tryz.f22 _ Exit.ret _ W) (g2:=b4) ?_ g6.out;intro WZ d9 d8 hk;exact few_end rfl rfl d9 (few_fin a0.out c8.out g5.out g1.out d8 hk)
     ·have d1:decide ((j:Int)<(ks.length:Int))=false:=DV (by omega);have d5:decide (j<ks.length)=false:=DV h1;clear b0
      go_wp2_with fail
      refine CF (P:=fun W=>bodyPost Tryz.prog Tryz.f22 _ Exit.ret _ W) (g2:=b4) ?_ g6.out;intro WZ d9 d8 hk;exact few_end rfl rfl d9 (few_fin a0.out c8.out g5.out g1.out d8 hk)
end
section
open Go.ChangeShapes Go.WideShapes Go.ChangeAt Go.RowKit
attribute [local go_sem ↓] Go.wp_at_zero Go.wp_at_succ
def MakeC:Prop:=∀(w:World) (ok:Nat->Prop) (v:Value) (m:MZ),zt w ok v m->Lens m->Calls Tryz.prog 20 #[v] w fun e w'=>∃v',e=.returned (.tuple #[v',.int .i64 (AP m).1])/\za w w'/\zM w' (fun b=>w.heap.size<=b) v' (AP m).2
theorem ychecks_calls (HO:OddC) (b3:MakeC) {ok ok2 ok3:Nat->Prop} {v v2 xs xk:Value} {ls ls2:List (List Int)} {x:PT} (o0 o1 o2 xt:Int) (w:World) (hv:zN w) (hm:zR w ok v ls) (j9:ls.length<=9223372036854775807) (k4:∀x∈ls,x.length<=9223372036854775807) (k5:zR w ok2 v2 ls2) (d6:ls2.length<=9223372036854775807) (d7:∀x∈ls2,x.length<=9223372036854775807) (hx:zM w ok3 (.agg #[.int .i64 xt,xs,xk]) x) (l4:x.In):
  Calls Tryz.prog 4 #[v,v2,.agg #[.int .i64 o0,.int .i64 o1,.int .i64 o2,.int .i64 xt,xs,xk]] w fun e w'=>e=.returned (.bool true)/\za w w':=by
 have HV:=zh hv;have HM:=zh hm;have g4:=zh k4;have g3:=zh j9;have g5:=zh k5;have c9:=zh d7;have c8:=zh d6;have h4:=zh hx;have h5:=zh l4;have HO:=zh HO;have b3:=zh b3;clear hv hm k4 j9 k5 d7 d6 hx l4
 go_enter Tryz.func4,Tryz.ntmps4
 go_upto_region 1 with fail;refine fin_wp29 w [_] fun wa j1 E=>?_
 have D:=E 0 _ rfl;have D:zd wa w.heap.size 50 #[.int .i64 o0,.int .i64 o1,.int .i64 o2,.int .i64 xt,xs,xk]:=D;obtain ⟨gi,j3⟩:∃g,g=w.heap.size:=⟨_,rfl⟩;rw [<-j3] at D⊢;have i0:∀W,za wa W->W.cell? ⟨gi,0,none⟩=some (.int .i64 o0):=za.rule (D.cell (k:=0) rfl);have i1:∀W,za wa W->W.cell? ⟨gi,1,none⟩=some (.int .i64 o1):=za.rule (D.cell (k:=1) rfl);have i2:∀W,za wa W->W.cell? ⟨gi,2,none⟩=some (.int .i64 o2):=za.rule (D.cell (k:=2) rfl);have i3:∀W,za wa W->W.cell? ⟨gi,3,none⟩=some (.int .i64 xt):=za.rule (D.cell (k:=3) rfl);have i4:∀W,za wa W->W.cell? ⟨gi,4,none⟩=some xs:=za.rule (D.cell (k:=4) rfl);have i5:∀W,za wa W->W.cell? ⟨gi,5,none⟩=some xk:=za.rule (D.cell (k:=5) rfl);have a4:=zh j1;clear E D j3 j1
 go_wp2_with fail
 refine (ysanity_calls wa (HV.out.ext a4.out)).mono ?_;rintro e w1 ⟨rfl,i6⟩;have d8:=zh i6;clear i6
 go_wp2_with fail
 refine (ymade_calls w1 (HM.out.below (a4.out.trans d8.out)) g3.out g4.out).mono ?_;rintro e w2 ⟨v',z,rfl,i7,hz,k6⟩;obtain ⟨Af,cf,Au,cu,At,ct,rfl,-,-,-⟩:=hz.parts;have d9:Hid (za wa w2):=d8.out.trans i7;have HZ:=zh hz;have b5:=zh k6;clear i7 hz k6 d8 HM g4 g3
 go_wp2_with fail
 refine (ymade_calls w2 (g5.out.below (a4.out.trans d9.out)) c8.out c9.out).mono ?_;rintro e w3 ⟨v'',y,rfl,i8,hy,k7⟩;obtain ⟨Bf,df,Bu,du,Bt,dt,rfl,-,-,-⟩:=hy.parts;have e0:Hid (za w2 w3):=i8;have HY:=zh hy;have g7:=zh k7;clear i8 hy k7 g5 c9 c8;go_upto_region 3 with fail;refine fin_wp29 w3 [_,_] fun w4 b7 E=>?_
 have M:zd w4 w3.heap.size 32 #[.int .i64 z.w,.int .i64 z.h,.int .i64 z.l,.slice Af z.free.length cf,.slice Au z.up.length cu,.slice At z.tasks.length ct]:=E 0 _ rfl;have U:zd w4 (w3.heap.size+1) 32 #[.int .i64 y.w,.int .i64 y.h,.int .i64 y.l,.slice Bf y.free.length df,.slice Bu y.up.length du,.slice Bt y.tasks.length dt]:=E 1 _ rfl;obtain ⟨gy,f2⟩:∃g,g=w3.heap.size+1:=⟨_,rfl⟩;obtain ⟨gz,f3⟩:∃g,g=w3.heap.size:=⟨_,rfl⟩;rw [<-f2] at U;rw [<-f3] at M;rw [<-f2,<-f3];have q0:∀W,za w4 W->W.cell? ⟨gz,0,none⟩=some _:=za.rule (M.cell (k:=0) rfl);have y0:∀W,za w4 W->W.cell? ⟨gy,0,none⟩=some _:=za.rule (U.cell (k:=0) rfl);have q1:∀W,za w4 W->W.cell? ⟨gz,1,none⟩=some _:=za.rule (M.cell (k:=1) rfl);have y1:∀W,za w4 W->W.cell? ⟨gy,1,none⟩=some _:=za.rule (U.cell (k:=1) rfl);have q2:∀W,za w4 W->W.cell? ⟨gz,2,none⟩=some _:=za.rule (M.cell (k:=2) rfl);have y2:∀W,za w4 W->W.cell? ⟨gy,2,none⟩=some _:=za.rule (U.cell (k:=2) rfl);have q3:∀W,za w4 W->W.cell? ⟨gz,3,none⟩=some _:=za.rule (M.cell (k:=3) rfl);have y3:∀W,za w4 W->W.cell? ⟨gy,3,none⟩=some _:=za.rule (U.cell (k:=3) rfl);have q4:∀W,za w4 W->W.cell? ⟨gz,4,none⟩=some _:=za.rule (M.cell (k:=4) rfl);have y4:∀W,za w4 W->W.cell? ⟨gy,4,none⟩=some _:=za.rule (U.cell (k:=4) rfl);have q5:∀W,za w4 W->W.cell? ⟨gz,5,none⟩=some _:=za.rule (M.cell (k:=5) rfl);have y5:∀W,za w4 W->W.cell? ⟨gy,5,none⟩=some _:=za.rule (U.cell (k:=5) rfl);have G:Hid (za wa w4):=d9.out.trans (e0.out.trans b7);have e7:=zh (HZ.out.below (e0.out.trans b7));have h6:=zh (HY.out.below b7);have b9:=b3.out w4 _ _ z e7.out b5.out.lens;have a5:=zh (makeP_lenN b5.out.lens);have V:=zh (makeP_size (m:=z));generalize AP z=mp at b9 a5 V;obtain ⟨er,p⟩:=mp;dsimp only at b9;have g6:=zh b9;have a5:Hid (p.LenN 400000000000):=a5.out;have V:Hid (p.size<=3000):=V.out;have m8:za w4 w4:=za.refl w4;clear E M U f2 f3 b7 d9 e0 HZ HY b9
 go_wp2_with fail
 refine g6.out.mono ?_;rintro e w5 ⟨v5,rfl,i9,f6⟩;obtain ⟨As,cs,Ak,ck,rfl,-⟩:=f6.form;have g9:=zh f6;have c6:=zh i9;clear i9 f6 g6 m8;go_upto_region 4 with fail;obtain ⟨D,p0,p1,p2⟩:=box3 w5 (.int .i64 p.task) (.slice As p.side.length cs) (.slice Ak p.kids.length ck);generalize w5.alloc _=w6 at D p0 p1 p2⊢;obtain ⟨gp,j5⟩:∃g,g=w5.heap.size:=⟨_,rfl⟩;rw [<-j5] at p0 p1 p2⊢;have I:Hid (za w4 w6):=c6.out.trans D;have e5:=zh (g9.out.ext D);have i0:=fun W h=>i0 W ((G.out.trans I.out).trans h)
 have i1:=fun W h=>i1 W ((G.out.trans I.out).trans h)
 have i2:=fun W h=>i2 W ((G.out.trans I.out).trans h)
 have i3:=fun W h=>i3 W ((G.out.trans I.out).trans h)
 have i4:=fun W h=>i4 W ((G.out.trans I.out).trans h)
 have i5:=fun W h=>i5 W ((G.out.trans I.out).trans h)
 have d4:=zh (h4.out.ext (a4.out.trans (G.out.trans I.out)));have m9:za w6 w6:=za.refl w6;clear D j5 c6 g9 h4
 go_wp2_with fail
 refine (HO.out w6 _ _ p 400000000000 o0 o1 o2 e5.out a5.out (by omega) (by have:=V.out;omega)).mono ?_;rintro e w7 ⟨v7,o,rfl,j0,f4,f5⟩;obtain ⟨Bs,ds,Bk,dk,rfl,-⟩:=f4.form;have g8:=zh f4;have e4:Hid (o.Lens/\o.size<=4000):=⟨oddP_lens f5 (by omega),by have:=f5.2;have:=V.out;omega⟩;have f9:=zh j0;clear j0 f4 f5 m9;go_upto_region 5 with fail;obtain ⟨D,r0,r1,r2⟩:=box3 w7 (.int .i64 o.task) (.slice Bs o.side.length ds) (.slice Bk o.kids.length dk);generalize w7.alloc _=w8 at D r0 r1 r2⊢;obtain ⟨go,j4⟩:∃g,g=w7.heap.size:=⟨_,rfl⟩;rw [<-j4] at r0 r1 r2⊢;have O:za w6 w8:=f9.out.trans D;have e3:Hid (zM w8 (fun b=>b<w8.heap.size) (.agg #[.int .i64 o.task,.slice Bs o.side.length ds,.slice Bk o.kids.length dk]) o):=(g8.out.ext D).wk fun b _ h=>h
 have e6:Hid (zM w8 (fun b=>b<w8.heap.size) (.agg #[.int .i64 p.task,.slice As p.side.length cs,.slice Ak p.kids.length ck]) p):=(e5.out.ext O).wk fun b _ h=>h
 have d5:Hid (zM w8 (fun b=>b<w8.heap.size) (.agg #[.int .i64 xt,xs,xk]) x):=(d4.out.ext O).wk fun b _ h=>h
 have i3:=fun W h=>i3 W (O.trans h)
 have i4:=fun W h=>i4 W (O.trans h)
 have i5:=fun W h=>i5 W (O.trans h)
 have p0:=fun W h=>p0 W (O.trans h)
 have p1:=fun W h=>p1 W (O.trans h)
 have p2:=fun W h=>p2 W (O.trans h)
 have c7:Hid (za w4 w8):=I.out.trans O;have l3:za w8 w8:=za.refl w8;have e2:Hid (p.Lens/\p.size<=4000):=⟨lenN_lens (by omega) _ a5.out,by have:=V.out;omega⟩
 have a9:Hid ((Ad 4 x).Lens/\(Ad 4 x).size<=4000):=by
  refine ⟨lenN_lens (by omega) _ (few_lenN 4 x),?_⟩;have h1:=few_size 4 x;have h:capF 4=341:=by decide
  omega
 have HF:Hid (∀W,za w8 W->Calls Tryz.prog 22 #[.agg #[.int .i64 xt,xs,xk],.int .i64 4] W (FewR W (fun b=>b<w8.heap.size) (Ad 4 x))):=fun W hW=>few_calls 5 4 _ _ _ W (by omega) (by omega) (d5.out.ext hW) h5.out
 generalize Ad 4 x=f at a9 HF;clear D j4 O g8 e5 d4 d5 I f9 HO b3 a5 V h5 i0 i1 i2;go_cut [13] (fun v wx=>∃g,v=.pointer (some ⟨g,0,none⟩)/\Hid (AllP w8 wx g))
 case first=>
  refine wp_dark fun Q' hP j2=>?_;refine Ar (S:=(fun W=>za w8 W)) zI (l3.drew) fun zH=>?_;generalize w8.drew=wd at zH⊢;refine Ct 0 hP zH ?_;simp only [zb,DN];refine Ct 1 hP zH ?_;simp only [zb,DN];refine Ct 2 hP zH ?_;simp only [zb,DN];refine Ct 3 hP zH ?_;simp only [zb,DN];refine Cy (rs:=[4,6]) (by kernel_rfl) (by simp) ?_;refine Ay.cons rfl (fun K J=>?_) ?_
  ·go_simp;go_at_call 22;refine (HF.out _ zH).mono ?_;rintro e wf ⟨vf,rfl,b8,a7⟩;obtain ⟨Fs,fs,Fk,fk,rfl,-⟩:=a7.form;refine EZ J (zH.trans b8) fun zH=>?_;clear J K;try simp only [zb,DN]
   refine Ct 5 hP zH ?_;simp only [zb,DN];refine rlR 6 fun K J=>?_;go_simp;have E:=zd.new wf #[.int .i64 0,.slice none 0 0,.slice none 0 0,.int .i64 0,.slice none 0 0,.slice none 0 0,.int .i64 0,.slice none 0 0,.slice none 0 0] 56 (g:=wf.heap.size) rfl;have e9:za w8 (wf.alloc (.cells #[.int .i64 0,.slice none 0 0,.slice none 0 0,.int .i64 0,.slice none 0 0,.slice none 0 0,.int .i64 0,.slice none 0 0,.slice none 0 0] 56)):=za.alloc zH _;have Q:Hid (w8.heap.size<=wf.heap.size):=Below.size zH;have g1:Hid ((wf.alloc (.cells #[.int .i64 0,.slice none 0 0,.slice none 0 0,.int .i64 0,.slice none 0 0,.slice none 0 0,.int .i64 0,.slice none 0 0,.slice none 0 0] 56)).heap.size=wf.heap.size+1):=by (show _=_);simp
   have m0:=zh ((a7.wk (ok':=fun b=>b≠wf.heap.size) fun b _ h=>by omega).ext ((za.refl _).alloc (.cells #[.int .i64 0,.slice none 0 0,.slice none 0 0,.int .i64 0,.slice none 0 0,.slice none 0 0,.int .i64 0,.slice none 0 0,.slice none 0 0] 56)));generalize wf.alloc _=wy at*;generalize wf.heap.size=g at*;refine EZ J e9 fun zH=>?_;clear J K;try simp only [zb,DN]
   refine rlZ 7 fun K J=>?_;have fz:∀j,wy.frozen? ⟨g,j,none⟩=false:=fun j=>E.frozen j
   have z0:=E.cell (k:=0) rfl;have z1:=E.cell (k:=1) rfl;have z2:=E.cell (k:=2) rfl;have z3:=E.cell (k:=3) rfl;have z4:=E.cell (k:=4) rfl;have z5:=E.cell (k:=5) rfl;have z6:=E.cell (k:=6) rfl;have z7:=E.cell (k:=7) rfl;have z8:=E.cell (k:=8) rfl;go_simp;refine Cz (P:=fun W=>K _ W) (g2:=g) ?_ E;intro WZ M e8 hk;refine J.out _ _ ?_;clear J K;refine AI (by kernel_rfl) ?_ _;subst j2;go_wp2;go_meet;exact ⟨g,rfl,allP_fin zH e8 Q.out hk M ((e6.out.ext zH).wk (fun b D _=>by have:=Q.out;omega)) ((e3.out.ext zH).wk (fun b D _=>by have:=Q.out;omega)) m0.out e2.out e4.out a9.out⟩
  refine Ay.cons rfl (fun K J=>?_) Ay.nil
  ·go_simp;have E:=zd.new wd #[.int .i64 0,.slice none 0 0,.slice none 0 0,.int .i64 0,.slice none 0 0,.slice none 0 0,.int .i64 0,.slice none 0 0,.slice none 0 0] 56 (g:=wd.heap.size) rfl;have e9:za w8 (wd.alloc (.cells #[.int .i64 0,.slice none 0 0,.slice none 0 0,.int .i64 0,.slice none 0 0,.slice none 0 0,.int .i64 0,.slice none 0 0,.slice none 0 0] 56)):=za.alloc zH _;have Q:Hid (w8.heap.size<=wd.heap.size):=Below.size zH;have g1:Hid ((wd.alloc (.cells #[.int .i64 0,.slice none 0 0,.slice none 0 0,.int .i64 0,.slice none 0 0,.slice none 0 0,.int .i64 0,.slice none 0 0,.slice none 0 0] 56)).heap.size=wd.heap.size+1):=by (show _=_);simp
   generalize wd.alloc _=wy at*;generalize wd.heap.size=g at*;refine EZ J e9 fun zH=>?_;clear J K;try simp only [zb,DN]
   refine rlR 4 fun K J=>?_;go_simp;go_at_call 22;refine (HF.out _ zH).mono ?_;rintro e wf ⟨vf,rfl,b8,a7⟩;obtain ⟨Fs,fs,Fk,fk,rfl,-⟩:=a7.form;have E:=E.ext b8;refine EZ J (zH.trans b8) fun zH=>?_;clear J K;try simp only [zb,DN]
   refine Ct 5 hP zH ?_;simp only [zb,DN];refine rlZ 7 fun K J=>?_;have fz:∀j,wf.frozen? ⟨g,j,none⟩=false:=fun j=>E.frozen j
   have z0:=E.cell (k:=0) rfl;have z1:=E.cell (k:=1) rfl;have z2:=E.cell (k:=2) rfl;have z3:=E.cell (k:=3) rfl;have z4:=E.cell (k:=4) rfl;have z5:=E.cell (k:=5) rfl;have z6:=E.cell (k:=6) rfl;have z7:=E.cell (k:=7) rfl;have z8:=E.cell (k:=8) rfl;go_simp;refine Cz (P:=fun W=>K _ W) (g2:=g) ?_ E;intro WZ M e8 hk;refine J.out _ _ ?_;clear J K;refine AI (by kernel_rfl) ?_ _;subst j2;go_wp2;go_meet;exact ⟨g,rfl,allP_fin zH e8 Q.out hk M ((e6.out.ext zH).wk (fun b D _=>by have:=Q.out;omega)) ((e3.out.ext zH).wk (fun b D _=>by have:=Q.out;omega)) (a7.wk fun b D _=>by have:=Q.out;have:=g1.out;omega) e2.out e4.out a9.out⟩
 case rest=>
  obtain ⟨g,rfl,a6⟩:=hcut;obtain ⟨wx,rfl⟩:∃wx:World,wx=wc:=⟨_,rfl⟩;have h9:za w8 wx:=a6.out.ext;obtain ⟨a0,a1,a2,b0,b1,b2,c0,c1,c2,pa,pb,pc,D,k8,k9,l0,j6,j7,j8⟩:=a6.out.at_
  have l7:Hid (∀k,k<3->∃x0 x1 x2 q,wx.cell? ⟨g,k*3,none⟩=some x0/\wx.cell? ⟨g,k*3+1,none⟩=some x1/\wx.cell? ⟨g,k*3+2,none⟩=some x2/\zM wx (fun b=>b≠g) (.agg #[x0,x1,x2]) q/\q.Lens/\q.size<=4000):=fun k hk=>by
   match k,hk with
   | 0,_=>exact ⟨_,_,_,pa,D.cell (k:=0) rfl,D.cell (k:=1) rfl,D.cell (k:=2) rfl,k8,j6⟩
   | 1,_=>exact ⟨_,_,_,pb,D.cell (k:=3) rfl,D.cell (k:=4) rfl,D.cell (k:=5) rfl,k9,j7⟩
   | 2,_=>exact ⟨_,_,_,pc,D.cell (k:=6) rfl,D.cell (k:=7) rfl,D.cell (k:=8) rfl,l0,j8⟩
  have b6:Hid (za w4 wx):=c7.out.trans h9;have g0:Hid (za w wx):=a4.out.trans (G.out.trans b6.out);have h8:=zh (e7.out.below b6.out);have h7:=zh (h6.out.below b6.out);clear D k8 k9 l0 j6 j7 j8 a6 l3 h9 e7 h6 c7 G e6 e3 e2 e4 a9 HF i3 i4 i5 p0 p1 p2 r0 r1 r2 HV a4
  go_wp2_with fail
  go_loopw [14] (fun v wr=>∃k:Nat,v=.int .i64 k/\k<=3/\Hid (za wx wr)) (fun v _=>3 - (intOf v).toNat)
  case atStart=>exact ⟨0,rfl,by omega,zh (za.refl wx)⟩
  case round=>
   obtain ⟨k,rfl,hk,hE⟩:=hrel;obtain ⟨wk,rfl⟩:∃wk:World,wk=wr:=⟨_,rfl⟩;by_cases k3:k<3
   ·obtain ⟨x0,x1,x2,q,h0,h1,h2,hq,a8,m3⟩:=l7.out k k3;have L:za w4 wk:=b6.out.trans hE.out;have hx:za wk wk:=za.refl wk;have s0:=za.rule (za.cell h0 hE.out);have s1:=za.rule (za.cell h1 hE.out);have s2:=za.rule (za.cell h2 hE.out);have q0:=fun W h=>q0 W (L.trans h)
    have y0:=fun W h=>y0 W (L.trans h)
    have q1:=fun W h=>q1 W (L.trans h)
    have y1:=fun W h=>y1 W (L.trans h)
    have q2:=fun W h=>q2 W (L.trans h)
    have y2:=fun W h=>y2 W (L.trans h)
    have q3:=fun W h=>q3 W (L.trans h)
    have y3:=fun W h=>y3 W (L.trans h)
    have q4:=fun W h=>q4 W (L.trans h)
    have y4:=fun W h=>y4 W (L.trans h)
    have q5:=fun W h=>q5 W (L.trans h)
    have y5:=fun W h=>y5 W (L.trans h)
    have n7:(0:Int)<=(k:Int):=by omega
    have n8:(k:Int)<3:=by omega
    have n9:decide (k<3)=true:=DU k3;obtain ⟨ca,f0⟩:∃b,b=AR z q:=⟨_,rfl⟩;obtain ⟨cb,f1⟩:∃b,b=AR y q:=⟨_,rfl⟩
    have l8:Hid (∀W,za wk W->Calls Tryz.prog 23 #[.agg #[.int .i64 z.w,.int .i64 z.h,.int .i64 z.l,.slice Af z.free.length cf,.slice Au z.up.length cu,.slice At z.tasks.length ct],.agg #[x0,x1,x2]] W fun e w'=>e=.returned (.bool ca)/\za W w'):=fun W hW=>by
     rw [f0];exact BH W (h8.out.below (hE.out.trans hW)) b5.out.lens (hq.ext (hE.out.trans hW)) a8 (by omega)
    have m1:Hid (∀W,za wk W->Calls Tryz.prog 24 #[.agg #[.int .i64 z.w,.int .i64 z.h,.int .i64 z.l,.slice Af z.free.length cf,.slice Au z.up.length cu,.slice At z.tasks.length ct],.agg #[x0,x1,x2]] W fun e w'=>e=.returned (.bool ca)/\za W w'):=fun W hW=>by
     rw [f0];exact vCheck_calls W (h8.out.below (hE.out.trans hW)) b5.out.lens (hq.ext (hE.out.trans hW)) a8 (by omega)
    have l9:Hid (∀W,za wk W->Calls Tryz.prog 23 #[.agg #[.int .i64 y.w,.int .i64 y.h,.int .i64 y.l,.slice Bf y.free.length df,.slice Bu y.up.length du,.slice Bt y.tasks.length dt],.agg #[x0,x1,x2]] W fun e w'=>e=.returned (.bool cb)/\za W w'):=fun W hW=>by
     rw [f1];exact BH W (h7.out.below (hE.out.trans hW)) g7.out.lens (hq.ext (hE.out.trans hW)) a8 (by omega)
    have m2:Hid (∀W,za wk W->Calls Tryz.prog 24 #[.agg #[.int .i64 y.w,.int .i64 y.h,.int .i64 y.l,.slice Bf y.free.length df,.slice Bu y.up.length du,.slice Bt y.tasks.length dt],.agg #[x0,x1,x2]] W fun e w'=>e=.returned (.bool cb)/\za W w'):=fun W hW=>by
     rw [f1];exact vCheck_calls W (h7.out.below (hE.out.trans hW)) g7.out.lens (hq.ext (hE.out.trans hW)) a8 (by omega)
    clear h0 h1 h2 hq a8 m3 f0 f1;go_upto_region 9 with fail;refine Eh (S:=(fun W=>za wk W)) zI (hx.drew) fun zH=>?_;generalize wk.drew=wd at zH⊢;refine zg 0 zH ?_;refine zg 1 zH ?_;simp only [zb,DN];refine zg 2 zH ?_;refine zg 3 zH ?_;simp only [zb,DN];refine zg 5 zH ?_;refine zg 6 zH ?_;simp only [zb,DN];refine zg 7 zH ?_;refine zg 8 zH ?_;simp only [zb,DN];refine AD 4 fun K J=>?_;go_simp;go_at_call 23;refine (l8.out _ zH).mono ?_;rintro e wA ⟨rfl,m4⟩;go_simp;refine EZ J (zH.trans m4) fun zH=>?_;clear J K;try simp only [zb,DN]
    refine AD 9 fun K J=>?_;go_simp;go_at_call 24;refine (m1.out _ zH).mono ?_;rintro e wB ⟨rfl,m5⟩;go_simp;refine EZ J (zH.trans m5) fun zH=>?_;clear J K;try simp only [zb,DN]
    refine zg 10 zH ?_;refine zg 11 zH ?_;simp only [zb,DN];refine zg 12 zH ?_;refine zg 13 zH ?_;simp only [zb,DN];refine zg 14 zH ?_;refine zg 15 zH ?_;simp only [zb,DN];refine zg 17 zH ?_;refine zg 18 zH ?_;simp only [zb,DN];refine zg 19 zH ?_;refine zg 20 zH ?_;simp only [zb,DN];refine AD 16 fun K J=>?_;go_simp;go_at_call 23;refine (l9.out _ zH).mono ?_;rintro e wC ⟨rfl,m6⟩;go_simp;refine EZ J (zH.trans m6) fun zH=>?_;clear J K;try simp only [zb,DN]
    refine AD 21 fun K J=>?_;go_simp;go_at_call 24;refine (m2.out _ zH).mono ?_;rintro e wD ⟨rfl,m7⟩;go_simp;refine EZ J (zH.trans m7) fun zH=>?_;clear J K;try simp only [zb,DN]
    refine zg 22 zH ?_;refine zg 23 zH ?_;simp only [zb,DN];refine Ev (by kernel_rfl) ?_ _;have e1:Hid (za wx wD):=hE.out.trans zH;clear zH hx
    go_wp2_with fail
    go_roundw
    case rel=>exact ⟨k+1,by go_num,by omega,e1⟩
    case measure=>simp [intOf];omega
   ·obtain rfl:k=3:=by omega
    have e1:Hid (za w wk):=g0.out.trans hE.out;clear hE
    go_wp2_with fail
    go_ret;exact ⟨rfl,e1.out⟩
end
section
open Go.ChangeShapes Go.WideShapes Go.ChangeAt Go.RowKit
section
variable {H:Type} {enc:TypeId×Value->H} {w:World} {base:Nat} {held:Bool} {fuel:Nat} {cs:List Value} {x:DataW H×List MemPlace}
theorem len3 {α:Type} {l:List α} (h:l.length=3):∃a b c,l=[a,b,c]:=by
 match l,h with
 | [a,b,c],_=>exact ⟨a,b,c,rfl⟩
end
section
variable {H:Type} {enc:TypeId×Value->H} {w:World} {base:Nat} {held:Bool} {fuel:Nat} {cs:List Value} {x:DataW H×List MemPlace}
theorem cellsPf:Tryz.prog.cellsOf 41=3:=by kernel_rfl
theorem cellsPfs:Tryz.prog.cellsOf 39=1:=by kernel_rfl
def tri (l:List (Value×Value×Value)):List Value:=l.flatMap fun x=>[x.1,x.2.1,x.2.2]
theorem tri_get:∀(l:List (Value×Value×Value)) (j:Nat) (u:Value),(tri l)[j]?=some u->∃i x,l[i]?=some x/\((j=i*3/\u=x.1)\/(j=i*3+1/\u=x.2.1)\/(j=i*3+2/\u=x.2.2))
 | [],j,u,h=>by simp [tri] at h
 | x :: l,j,u,h=>by
  unfold tri at h;rw [List.flatMap_cons] at h
  match j,h with
  | 0,h=>exact ⟨0,x,rfl,.inl ⟨rfl,by simpa using h.symm⟩⟩
  | 1,h=>exact ⟨0,x,rfl,.inr (.inl ⟨rfl,by simpa using h.symm⟩)⟩
  | 2,h=>exact ⟨0,x,rfl,.inr (.inr ⟨rfl,by simpa using h.symm⟩)⟩
  | j+3,h=>
   have h2:(tri l)[j]?=some u:=by simpa [tri] using h
   obtain ⟨i,y,h3,D⟩:=tri_get l j u h2;exact ⟨i+1,y,h3,by rcases D with ⟨D,o⟩ | ⟨D,o⟩ | ⟨D,o⟩;exact .inl ⟨by omega,o⟩;exact .inr (.inl ⟨by omega,o⟩);exact .inr (.inr ⟨by omega,o⟩)⟩
theorem tri_at:∀(l:List (Value×Value×Value)) (i:Nat) (h:i<l.length),(tri l).getD (i*3) undef=l[i].1/\(tri l).getD (i*3+1) undef=l[i].2.1/\(tri l).getD (i*3+2) undef=l[i].2.2
 | [],i,h=>by simp at h
 | y :: l,0,h=>⟨rfl,rfl,rfl⟩
 | y :: l,i+1,h=>by
  obtain ⟨h3,o,D⟩:=tri_at l i (by simpa using h);have e:tri (y :: l)=y.1 :: y.2.1 :: y.2.2 :: tri l:=by simp [tri]
  rw [e];refine ⟨?_,?_,?_⟩
  ·rw [show (i+1)*3=(i*3)+3 from by omega];simpa using h3
  ·rw [show (i+1)*3+1=(i*3+1)+3 from by omega];simpa using o
  ·rw [show (i+1)*3+2=(i*3+2)+3 from by omega];simpa using D
theorem tri_len (l:List (Value×Value×Value)):(tri l).length=l.length*3:=by
 induction l with
 | nil=>rfl
 | cons x l ih=>
  have e:tri (x :: l)=x.1 :: x.2.1 :: x.2.2 :: tri l:=by simp [tri]
  rw [e];simp only [EW,ih];omega
theorem sliceOpenN {t e:TypeId} {sz:Nat} (ht:Tryz.prog.underlying t=some (.slice e)) (M:Tryz.prog.cellsOf e=sz) (h0:0<sz) (h:DataW.trod enc Tryz.prog w base (fun _=>true) held fuel t cs=some x):
  ∃A len c,cs=[.slice A len c]/\len<=c/\len<=9223372036854775807/\(0<len->∃b off,A=some ⟨b,off,none⟩/\∀i,i<len->∃(cl:List Value) (n:Nat) (y:DataW H×List MemPlace),n<fuel/\cl.length=sz/\(∀j,j<sz->w.cell? ⟨b,off+(i*sz+j),none⟩=cl[j]?)/\DataW.trod enc Tryz.prog w base (fun _=>true) held n e cl=some y):=by
 rcases DataW.trod_slice ht h with ⟨rfl,_⟩ | ⟨a,len,cap,elems,rest,n,U,rfl,_,hb,hl,hm,Q,J,_,_⟩
 ·exact ⟨none,0,0,rfl,DR _,by decide,fun h=>by omega⟩
 ·refine ⟨some a,len,cap,rfl,hl,by unfold maxLen at hm;omega,fun E=>?_⟩
  have each:∀i,i<len->∃(cl:List Value) (y:DataW H×List MemPlace),w.cells? base (a.add (i*sz)) sz=some cl/\DataW.trod enc Tryz.prog w base (fun _=>true) held n e cl=some y:=fun i K=>by
   have h1:=J i K;rw [M,DO (by omega)] at h1;obtain ⟨cl,h2,h3⟩:=Option.bind_eq_some_iff.1 h1;exact ⟨cl,_,h2,h3⟩
  have L:a.spot=none:=by
   obtain ⟨cl,y,h2,_⟩:=each 0 E;obtain ⟨_,O,G⟩:=World.cells?_some h2;have D:=G 0 h0;rw [DO (by omega)] at D;have I:=spot_none D;rw [Nat.zero_mul] at I;unfold Addr.add at I
   rwa [if_pos rfl,if_pos rfl] at I
  refine ⟨a.block,a.off,?_,fun i K=>?_⟩
  ·obtain ⟨b,o,s⟩:=a;simp only at L;subst L;rfl
  ·obtain ⟨cl,y,h2,h3⟩:=each i K;obtain ⟨_,O,G⟩:=World.cells?_some h2;refine ⟨cl,n,y,by omega,O,fun j V=>?_,h3⟩;have D:=G j V;rw [addr_at L,addr_at rfl] at D;rw [<-Nat.add_assoc];exact D
theorem fieldOpenN {t:TypeId} {fs:Array Field} (ht:Tryz.prog.underlying t=some (.struct fs)) (h:DataW.trod enc Tryz.prog w base (fun _=>true) held fuel t cs=some x):
  cs.length=Tryz.prog.cellsOf t/\∀(i ty off sz:Nat),(fs[i]?).map (fun f=>(f.type,f.offset))=some (ty,off)->Tryz.prog.cellsOf ty=sz->∃n y,n<fuel/\DataW.trod enc Tryz.prog w base (fun _=>true) held n ty ((cs.drop off).take sz)=some y:=by
 obtain ⟨xs,n,I,_,J,K,hf⟩:=DataW.trod_struct ht h;refine ⟨J,fun i ty off sz o G=>?_⟩;obtain ⟨f,o,he⟩:=Option.map_eq_some_iff.1 o;injection he with D E;have h1:=hf i f o;have h2:i<fs.size:=(EM.1 o).1;rw [DO (by omega),D,E,G] at h1;exact ⟨n,_,by omega,h1⟩
theorem inL_all:∀{ks:List PT},(∀k∈ks,k.In)->PT.InL ks
 | [],_=>by unfold PT.InL;trivial
 | k :: ks,h=>by
  unfold PT.InL;exact ⟨h k (ED ..),inL_all fun x o=>h x (El _ o)⟩
theorem intsOpenB (h:DataW.trod enc Tryz.prog w base (fun _=>true) held fuel 23 cs=some x):∃v l,cs=[v]/\zk w (fun _=>True) v l/\l.length<=9223372036854775807/\∀x∈l,I64 x:=by
 obtain ⟨v,l,rfl,he,I,D⟩:=eachOpen (R:=fun u a=>u=Value.int .i64 a/\I64 a) Tryz.underlying23 (by kernel_rfl) (fun n cl y E=>by
  obtain ⟨k,rfl,h0,h1⟩:=intOpen E;exact ⟨_,k,rfl,rfl,h0,h1⟩) h
 obtain ⟨vs,J,o⟩:=he
 exact ⟨v,l,rfl,row_of_each (f:=Value.int .i64) ⟨vs,J,fun i y E=>by
  obtain ⟨u,h1,h2,_⟩:=o i y E;exact ⟨u,h1,h2⟩⟩,I,fun a G=>by obtain ⟨u,h⟩:=D a G;exact h.2⟩
theorem proofOpen:∀(N fuel:Nat) (cs:List Value) (x:DataW H×List MemPlace),fuel<N->DataW.trod enc Tryz.prog w base (fun _=>true) held fuel 41 cs=some x->
  ∃t vs vk p,cs=[.int .i64 t,vs,vk]/\zM w (fun _=>True) (.agg #[.int .i64 t,vs,vk]) p/\p.In
 | 0,fuel,cs,x,hN,_=>by omega
 | N+1,fuel,cs,x,hN,h=>by
  obtain ⟨hl,hf⟩:=fieldOpenN Tryz.underlying41 h;rw [cellsPf] at hl;obtain ⟨c0,c1,c2,rfl⟩:=len3 hl;obtain ⟨n0,y0,-,f0⟩:=hf 0 _ _ _ rfl cellsT3;obtain ⟨n1,y1,-,f1⟩:=hf 1 _ _ _ rfl cellsT24;obtain ⟨n2,y2,a3,f2⟩:=hf 2 _ _ _ rfl cellsPfs;have f0:DataW.trod enc Tryz.prog w base (fun _=>true) held n0 3 [c0]=some y0:=f0;have f1:DataW.trod enc Tryz.prog w base (fun _=>true) held n1 23 [c1]=some y1:=f1;have f2:DataW.trod enc Tryz.prog w base (fun _=>true) held n2 39 [c2]=some y2:=f2;obtain ⟨t,e0,t0,t1⟩:=intOpen f0;obtain ⟨vs,s,e1,hs,J,K⟩:=intsOpenB f1;injection e0 with e0;injection e1 with e1;subst e0 e1;obtain ⟨A,len,c,e2,I,O,E⟩:=sliceOpenN Tryz.underlying39 cellsPf (by omega) f2;injection e2 with e2;subst e2;rcases EC len with rfl | hpos
  ·refine ⟨t,_,_,.node t s [],rfl,.mk (cs:=[]) hs ⟨A,c,rfl,I,AE.nil _ _ _ _⟩ (fun i o=>absurd o (by simp)),?_⟩;unfold PT.In;exact ⟨⟨t0,t1⟩,K,J,by simp,inL_all fun k M=>absurd M (EN)⟩
  ·obtain ⟨b,off,rfl,L⟩:=E hpos
   obtain ⟨l,D,hp⟩:=chooseList (β:=(Value×Value×Value)×PT) (p:=fun i x=>w.cell? ⟨b,off+(i*3),none⟩=some x.1.1/\w.cell? ⟨b,off+(i*3+1),none⟩=some x.1.2.1/\w.cell? ⟨b,off+(i*3+2),none⟩=some x.1.2.2/\zM w (fun _=>True) (.agg #[x.1.1,x.1.2.1,x.1.2.2]) x.2/\x.2.In) len (fun i o=>by
    obtain ⟨cl,n,y,hn,h1,h2,h3⟩:=L i o;obtain ⟨t',vs',vk',p',rfl,Q,U⟩:=proofOpen N n cl y (by omega) h3;have g0:=h2 0 (by omega);have g1:=h2 1 (by omega);have g2:=h2 2 (by omega);exact ⟨((.int .i64 t',vs',vk'),p'),g0,g1,g2,Q,U⟩)
   refine ⟨t,_,_,.node t s (l.map (·.2)),rfl,.mk (cs:=tri (l.map (·.1))) hs ⟨_,c,by rw [EB,D],by rw [EB,D];exact I,by rw [tri_len,EB,EB],fun _=>⟨b,off,rfl,trivial,fun j u hu=>?_⟩⟩ (fun i o=>?_),?_⟩
   ·obtain ⟨i,y,h1,h2⟩:=tri_get _ j u hu;rw [EA] at h1;obtain ⟨z,V,rfl⟩:=Option.map_eq_some_iff.1 h1;obtain ⟨g0,g1,g2,_⟩:=hp i z V;rcases h2 with ⟨rfl,rfl⟩ | ⟨rfl,rfl⟩ | ⟨rfl,rfl⟩
    ·exact g0
    ·exact g1
    ·exact g2
   ·have G:i<l.length:=by simpa using o
    obtain ⟨k0,k1,k2⟩:=tri_at (l.map (·.1)) i (by simpa using G);obtain ⟨g0,g1,g2,g3,-⟩:=hp i l[i] (DO G);rw [k0,k1,k2];simp only [List.getElem_map];exact g3
   ·unfold PT.In;refine ⟨⟨t0,t1⟩,K,J,by rw [EB,D];exact O,inL_all fun k M=>?_⟩;obtain ⟨z,V,rfl⟩:=EP.1 M;obtain ⟨i,o,rfl⟩:=Ex V;exact (hp i _ (DO o)).2.2.2.2
end
section
variable {H:Type} {enc:TypeId×Value->H} {base:Nat} {v v0 v1 v2:Value} {d d0 d1 d2:DataW H} {p p0 p1 p2:List MemPlace} {W:World}
theorem cellsCh:Tryz.prog.cellsOf 50=6:=by kernel_rfl
theorem changedArg (E:Value.okWide Tryz.prog W .any base 50 v) (h:DataW.Trod enc Tryz.prog W 0 (fun _=>true) true 50 v d p):∃(o0 o1 o2 xt:Int) (xs xk:Value) (x:PT),v=.agg #[.int .i64 o0,.int .i64 o1,.int .i64 o2,.int .i64 xt,xs,xk]/\zM W (fun _=>True) (.agg #[.int .i64 xt,xs,xk]) x/\x.In:=by
 have D:∃cs,v=.agg cs:=by
  unfold Value.okWide at E;rw [Tryz.underlying50] at E;obtain ⟨cs,h,_⟩:=E;exact ⟨cs,h⟩
 obtain ⟨fuel,h⟩:=h;obtain ⟨K,hf⟩:=fieldOpenN Tryz.underlying50 h;rw [cellsCh] at K
 obtain ⟨c0,c1,c2,c3,c4,c5,J⟩:∃a b c d e f,v.cells.toList=[a,b,c,d,e,f]:=by
  match v.cells.toList,K with
  | [a,b,c,d,e,f],_=>exact ⟨a,b,c,d,e,f,rfl⟩
 have G:=agg_of J D;rw [J] at hf;obtain ⟨n0,y0,-,f0⟩:=hf 0 _ _ _ rfl cellsT23;obtain ⟨n1,y1,-,f1⟩:=hf 1 _ _ _ rfl cellsPf;have f0:DataW.trod enc Tryz.prog W 0 (fun _=>true) true n0 24 [c0,c1,c2]=some y0:=f0;have f1:DataW.trod enc Tryz.prog W 0 (fun _=>true) true n1 41 [c3,c4,c5]=some y1:=f1;obtain ⟨xt,xs,xk,x,e,M,I⟩:=proofOpen (n1+1) n1 _ _ (Nat.lt_succ_self _) f1;injection e with e3 e;injection e with e4 e;injection e with e5 e;subst e3 e4 e5;obtain ⟨xs',m,_,_,L,O,o⟩:=DataW.trod_array Tryz.underlying24 f0;rw [cellsT3] at o;have a0:=o 0 (by omega);have a1:=o 1 (by omega);have a2:=o 2 (by omega);rw [DO (by omega)] at a0 a1 a2;have a0:DataW.trod enc Tryz.prog W 0 (fun _=>true) true m 3 [c0]=_:=a0;have a1:DataW.trod enc Tryz.prog W 0 (fun _=>true) true m 3 [c1]=_:=a1;have a2:DataW.trod enc Tryz.prog W 0 (fun _=>true) true m 3 [c2]=_:=a2;obtain ⟨o0,e0,b0⟩:=intOpen a0;obtain ⟨o1,e1,b1⟩:=intOpen a1;obtain ⟨o2,e2,b2⟩:=intOpen a2;injection e0 with e0;injection e1 with e1;injection e2 with e2;subst e0 e1 e2;exact ⟨o0,o1,o2,xt,_,_,x,G,M,I⟩
theorem makeC:MakeC:=fun w ok v m hm o=>vMake_calls w hm o
theorem proofChecks_walk (W:World) (I:zN W) (o:Value.okWide Tryz.prog W .any base 22 v0) (h0:DataW.Trod enc Tryz.prog W 0 (fun _=>true) true 22 v0 d0 p0) (D:Value.okWide Tryz.prog W .any base 22 v1) (h1:DataW.Trod enc Tryz.prog W 0 (fun _=>true) true 22 v1 d1 p1) (E:Value.okWide Tryz.prog W .any base 50 v2) (h2:DataW.Trod enc Tryz.prog W 0 (fun _=>true) true 50 v2 d2 p2):
  Calls Tryz.prog 4 #[v0,v1,v2] W fun e w'=>e=.returned (.bool true)/\Below W.heap.size W w':=by
 obtain ⟨ls,i0,i1,i2⟩:=intssArg o h0;obtain ⟨ls2,j0,j1,j2⟩:=intssArg D h1;obtain ⟨o0,o1,o2,xt,xs,xk,x,rfl,J,G⟩:=changedArg E h2;exact ychecks_calls oddC makeC o0 o1 o2 xt W I i0 i1 i2 j0 j1 j2 J G
end
end
end Go.Proofs.YtjomnbdjajjgfaaGreatDoor
