import Derived.Test.YthbjngbhbbkkgaaGreatHRzh
set_option linter.unusedVariables false
set_option linter.unusedSimpArgs false
set_option maxRecDepth 100000
set_option maxHeartbeats 16000000
namespace Go.Proofs.YthbjngbhbbkkgaaGreat
variable {pp:List (List Int)} {ch:List Int} {xs:List Value} {m:MZ} {g1 n sz t:Nat} {ok okc okp:Nat->Prop} {o:Obj} {v vc vp:Value} {w5:World}
section
open Go.RowKit
attribute [local go_sem ↓] Go.wp_at_zero Go.wp_at_succ
def exN (l:List (Int×Int)):MZ:=⟨3,3,1,List.replicate l.length exFree,List.replicate 9 false,l.map fun x=>([x.1],[x.2])⟩
def exC:Array Value:=#[.bool true,.bool true,.bool true,.bool true,.bool false,.bool true,.bool true,.bool true,.bool true]
def upC:Array Value:=#[.bool false,.bool false,.bool false,.bool false,.bool false,.bool false,.bool false,.bool false,.bool false]
structure XI (B:Nat) (w:World) (gm gu nF:Nat) (vF vT:Value) (fs ts:List Value) (l:List (Int×Int)):Prop where
 hB:B<=w.heap.size
 gm0:B<=gm
 gu0:B<=gu
 mz:zk w gm 32 #[.int .i64 3,.int .i64 3,.int .i64 1,vF,.slice (some ⟨gu,0,none⟩) 9 9,vT]
 up:zk w gu 4 upC
 F:w.ownsRow B 29 1 vF nF fs
 T:w.ownsRow B 56 3 vT l.length ts
 fd:∀j,j<nF->∃g,fs[j]?=some (.slice (some ⟨g,0,none⟩) 9 9)/\B<=g/\zk w g 4 exC
 td:∀(j:Nat) (x:Int×Int),l[j]?=some x->∃g1 g2,ts[j*3]?=some (.string ⟨#[]⟩)/\ts[j*3+1]?=some (.slice (some ⟨g1,0,none⟩) 1 1)/\ts[j*3+2]?=some (.slice (some ⟨g2,0,none⟩) 1 1)/\B<=g1/\B<=g2/\zk w g1 3 #[.int .i64 x.1]/\zk w g2 3 #[.int .i64 x.2]
section
variable {B:Nat} {w w':World} {gm gu nF:Nat} {vF vT:Value} {fs ts:List Value} {l:List (Int×Int)}
theorem XI.ext (h:XI B w gm gu nF vF vT fs ts l) (z:zb w w'):XI B w' gm gu nF vF vT fs ts l:=
 ⟨EI h.hB z.size,h.gm0,h.gu0,zk.ext h.mz z,zk.ext h.up z,AK h.F fun g D=>z.block g (World.ownsRow.lt h.F g D).2,AK h.T fun g D=>z.block g (World.ownsRow.lt h.T g D).2,
  fun j E=>by
   obtain ⟨g,h1,h2,h3⟩:=h.fd j E;exact ⟨g,h1,h2,zk.ext h3 z⟩,
  fun j x E=>by
   obtain ⟨g1,g2,h1,h2,h3,G,I,J,L⟩:=h.td j x E;exact ⟨g1,g2,h1,h2,h3,G,I,zk.ext J z,zk.ext L z⟩⟩
theorem own_set {w:World} {B:Nat} {e t:TypeId} {g k:Nat} {cs:Array Value} (h:w.ownsRow B e sz v n xs) (E:zk w g t cs) (D:e≠t) (u:Value):(w.setCell ⟨g,k,none⟩ u).ownsRow B e sz v n xs:=
 AK h fun g' z=>EP w ⟨g,k,none⟩ _ g' (fun e=>by
  have e':g'=g:=e;subst e';exact zm h E D z)
theorem own_otherK {w:World} {B B':Nat} {e e':TypeId} {sz' n':Nat} {v':Value} {xs':List Value} (h:w.ownsRow B e sz v n xs) (G:w.ownsRow B' e' sz' v' n' xs') (E:e≠e') (J:(w.alloc o).grownBy w5 v'.ownBlock):w5.ownsRow B e sz v n xs:=
 AK h fun g z=>by
  have D:=(World.ownsRow.lt h g z).2;refine (J.block g (by simp;omega) (fun e2=>?_)).trans (EY _ _ _ D);obtain ⟨O,⟨e3,_⟩ | ⟨g2,cap,cur,e3,L,I,M⟩⟩:=h
  ·rw [e3] at z;cases z
  ·rw [e3] at z;have:g2=g:=by simpa [Value.ownBlock] using z
   subst this;exact zm G I (Ne.symm E) e2.symm
theorem XI.addT (h:XI B w gm gu nF vF vT fs ts l) {g2:Nat} {x:Int×Int} {vT':Value} (k1:B<=g1) (k2:B<=g2) (b1:zk w g1 3 #[.int .i64 x.1]) (b2:zk w g2 3 #[.int .i64 x.2])
  (ho:w5.ownsRow B 56 3 vT' (l.length+1) (ts++[.string ⟨#[]⟩,.slice (some ⟨g1,0,none⟩) 1 1,.slice (some ⟨g2,0,none⟩) 1 1])) (M:(w.alloc o).grownBy w5 vT.ownBlock):
  XI B (w5.setCell ⟨gm,5,none⟩ vT') gm gu nF vF vT' fs (ts++[.string ⟨#[]⟩,.slice (some ⟨g1,0,none⟩) 1 1,.slice (some ⟨g2,0,none⟩) 1 1]) (l++[x])/\Below B w (w5.setCell ⟨gm,5,none⟩ vT'):=by
 have h1:∀g ty cs,zk w g ty cs->ty≠56->w5.heap[g]?=w.heap[g]?:=fun g ty cs z E=>(M.block g (by have:=zd z;simp;omega) (fun e=>zm h.T z (Ne.symm E) e.symm)).trans (EY _ _ _ (zd z))
 have D:zk w5 gm 32 _:=(h1 gm _ _ h.mz (by decide)).trans h.mz;have h2:∀g ty cs,zk w g ty cs->ty≠56->ty≠32->zk (w5.setCell ⟨gm,5,none⟩ vT') g ty cs:=fun g ty cs z E L=>(EP w5 ⟨gm,5,none⟩ _ g (zk.ne_ z h.mz L)).trans ((h1 g ty cs z E).trans z)
 have U:w.heap.size<=(w5.setCell ⟨gm,5,none⟩ vT').heap.size:=by have:=M.size;simp [World.setCell] at this⊢;omega
 have J:Below B w (w5.setCell ⟨gm,5,none⟩ vT'):=by
  have h3:Below B w (w.alloc o):=(Below.refl B w).alloc h.hB _;have I:Below B w w5:=h3.grown M (by simp;have:=h.hB;omega) (fun k hk=>(h.T.lt k hk).1);exact I.setCell (p:=⟨gm,5,none⟩) h.gm0 _
 refine ⟨⟨EI h.hB U,h.gm0,h.gu0,D.set (k:=5) vT',h2 gu _ _ h.up (by decide) (by decide),own_set (own_otherK h.F h.T (by decide) M) D (by decide) _,?_,fun j G=>?_,fun j y G=>?_⟩,J⟩
 ·rw [EO];exact own_set ho D (by decide) _
 ·obtain ⟨g,h3,I,O⟩:=h.fd j G;exact ⟨g,h3,I,h2 g _ _ O (by decide) (by decide)⟩
 ·have a0:ts.length=l.length*3:=h.T.1;rcases Fc j l.length with hj2 | hj2
  ·rw [EL hj2] at G;obtain ⟨a,b,h3,I,O,h6,h7,h8,h9⟩:=h.td j y G;exact ⟨a,b,by rw [EL (by omega)];exact h3,by rw [EL (by omega)];exact I,by rw [EL (by omega)];exact O,h6,h7,h2 _ _ _ h8 (by decide) (by decide),h2 _ _ _ h9 (by decide) (by decide)⟩
  ·have Q:j=l.length:=by
    have:=(FD.1 G).1;simp at this;omega
   subst Q;have V:x=y:=by simpa using G
   subst V;refine ⟨g1,g2,?_,?_,?_,k1,k2,h2 _ _ _ b1 (by decide) (by decide),h2 _ _ _ b2 (by decide) (by decide)⟩
   ·rw [EM (by omega),show l.length*3 - ts.length=0 from by omega];rfl
   ·rw [EM (by omega),show l.length*3+1 - ts.length=1 from by omega];rfl
   ·rw [EM (by omega),show l.length*3+2 - ts.length=2 from by omega];rfl
theorem XI.addF (h:XI B w gm gu nF vF vT fs ts l) {vF':Value} (k1:B<=g1) (b1:zk w g1 4 exC)
  (ho:w5.ownsRow B 29 1 vF' (nF+1) (fs++[.slice (some ⟨g1,0,none⟩) 9 9])) (L:(w.alloc o).grownBy w5 vF.ownBlock):
  XI B (w5.setCell ⟨gm,3,none⟩ vF') gm gu (nF+1) vF' vT (fs++[.slice (some ⟨g1,0,none⟩) 9 9]) ts l/\Below B w (w5.setCell ⟨gm,3,none⟩ vF'):=by
 have h1:∀g ty cs,zk w g ty cs->ty≠29->w5.heap[g]?=w.heap[g]?:=fun g ty cs z E=>(L.block g (by have:=zd z;simp;omega) (fun e=>zm h.F z (Ne.symm E) e.symm)).trans (EY _ _ _ (zd z))
 have D:zk w5 gm 32 _:=(h1 gm _ _ h.mz (by decide)).trans h.mz;have h2:∀g ty cs,zk w g ty cs->ty≠29->ty≠32->zk (w5.setCell ⟨gm,3,none⟩ vF') g ty cs:=fun g ty cs z E J=>(EP w5 ⟨gm,3,none⟩ _ g (zk.ne_ z h.mz J)).trans ((h1 g ty cs z E).trans z)
 have Q:w.heap.size<=(w5.setCell ⟨gm,3,none⟩ vF').heap.size:=by have:=L.size;simp [World.setCell] at this⊢;omega
 have I:Below B w (w5.setCell ⟨gm,3,none⟩ vF'):=by
  have h3:Below B w (w.alloc o):=(Below.refl B w).alloc h.hB _;have G:Below B w w5:=h3.grown L (by simp;have:=h.hB;omega) (fun k hk=>(h.F.lt k hk).1);exact G.setCell (p:=⟨gm,3,none⟩) h.gm0 _
 have V:fs.length=nF*1:=h.F.1;refine ⟨⟨EI h.hB Q,h.gm0,h.gu0,D.set (k:=3) vF',h2 gu _ _ h.up (by decide) (by decide),own_set ho D (by decide) _,own_set (own_otherK h.T h.F (by decide) L) D (by decide) _,fun j U=>?_,fun j y U=>?_⟩,I⟩
 ·rcases Fc j nF with hj2 | hj2
  ·obtain ⟨g,h3,G,M⟩:=h.fd j hj2;exact ⟨g,by rw [EL (by omega)];exact h3,G,h2 g _ _ M (by decide) (by decide)⟩
  ·have O:j=nF:=by omega
   subst O;exact ⟨g1,by rw [EM (by omega),show j - fs.length=0 from by omega];rfl,k1,h2 _ _ _ b1 (by decide) (by decide)⟩
 ·obtain ⟨a,b,h3,G,M,h6,h7,h8,h9⟩:=h.td j y U;exact ⟨a,b,h3,G,M,h6,h7,h2 _ _ _ h8 (by decide) (by decide),h2 _ _ _ h9 (by decide) (by decide)⟩
theorem XI.maze (h:XI B w gm gu l.length vF vT fs ts l):zw w (fun b=>B<=b) (.agg #[.int .i64 3,.int .i64 3,.int .i64 1,vF,.slice (some ⟨gu,0,none⟩) 9 9,vT]) (exN l):=by
 refine ⟨vF,_,vT,rfl,⟨fs,by show AI w _ 1 vF (List.replicate l.length exFree).length fs;rw [List.length_replicate];exact AI.of_own h.F,fun i x D=>?_⟩,⟨_,_,rfl,EG _,Ae.block (cs:=upC) h.up h.gu0 rfl⟩,⟨ts,by show AI w _ 3 vT (l.map _).length ts;rw [Fr];exact AI.of_own h.T,fun i x D=>?_⟩⟩
 ·have z:(List.replicate l.length exFree)[i]?=some x:=D;obtain ⟨G,e⟩:=FD.1 z;rw [List.length_replicate] at G;rw [List.getElem_replicate] at e;subst e;obtain ⟨g,h1,h2,h3⟩:=h.fd i G;exact ⟨_,h1,⟨_,_,rfl,EG _,Ae.block (cs:=exC) h3 h2 rfl⟩⟩
 ·have z:(l.map fun x=>([x.1],[x.2]))[i]?=some x:=D;rw [Fq] at z
  cases E:l[i]? with
  | none=>rw [E] at z;cases z
  | some y=>
   rw [E] at z;injection z with z;subst z;obtain ⟨a,b,h3,I,J,L,M,O,Q⟩:=h.td i y E;exact ⟨_,_,_,h3,I,J,⟨_,_,rfl,EG _,Ae.block (cs:=#[.int .i64 y.1]) O L rfl⟩,⟨_,_,rfl,EG _,Ae.block (cs:=#[.int .i64 y.2]) Q M rfl⟩⟩
end
theorem kexample_calls (l:List (Int×Int)) (gt:Nat) (w:World) (hl:l.length<=1000) (hc:∀(k:Nat) (x:Int×Int),l[k]?=some x->w.cell? ⟨gt,k*2,none⟩=some (.int .i64 x.1)/\w.cell? ⟨gt,k*2+1,none⟩=some (.int .i64 x.2)):
  Calls Tryz.prog 33 #[.slice (some ⟨gt,0,none⟩) l.length l.length] w fun e w'=>∃v,e=.returned v/\zb w w'/\zw w' (fun x=>w.heap.size<=x) v (exN l):=by
 have HC:=zh hc;clear hc;obtain ⟨iT,ti,tz0,tz1,tz2⟩:=info_parts Tryz.infoTask;have TF:=zh ti;have TZ0:=zh tz0;have TZ1:=zh tz1;have TZ2:=zh tz2;clear ti tz0 tz1 tz2;obtain ⟨iL,li,lz0,lz1,lz2⟩:=info_parts Tryz.infoBools;have LF:=zh li;have LZ0:=zh lz0;have LZ1:=zh lz1;have LZ2:=zh lz2;clear li lz0 lz1 lz2;have g5:∀w,(Instr.makeSlice 29 (.int .i64 9) (.int .i64 9)).run Tryz.prog w=.ok (.slice (some ⟨w.heap.size,0,none⟩) 9 9) (w.alloc (.cells #[.bool false,.bool false,.bool false,.bool false,.bool false,.bool false,.bool false,.bool false,.bool false] 4)):=fun _=>by kernel_rfl
 go_enter Tryz.func33,Tryz.ntmps33
 go_upto_region 1 with fail;have a1:Hid (zk (w.alloc (.cells #[.int .i64 0,.int .i64 0,.int .i64 0,.slice none 0 0,.slice none 0 0,.slice none 0 0] 32)) w.heap.size 32 _):=zk.new w _ 32 rfl;have V:Hid (zb w (w.alloc (.cells #[.int .i64 0,.int .i64 0,.int .i64 0,.slice none 0 0,.slice none 0 0,.slice none 0 0] 32))):=(zb.refl w).alloc _;generalize w.alloc _=w1 at a1 V⊢;obtain ⟨g0,b3⟩:∃g,g=w.heap.size:=⟨_,rfl⟩;rw [<-b3] at a1⊢;have e4:Hid (g0=w.heap.size):=b3;clear b3;have d4:Hid (∀(k:Nat) (x:Int×Int),l[k]?=some x->w1.cell? ⟨gt,k*2,none⟩=some (.int .i64 x.1)/\w1.cell? ⟨gt,k*2+1,none⟩=some (.int .i64 x.2)):=fun k x hx=>⟨V.out.cell (HC.out k x hx).1,V.out.cell (HC.out k x hx).2⟩
 go_upto_region 2 with fail
 have a8:Hid (XI w1.heap.size ((w1.alloc (.cells #[.bool false,.bool false,.bool false,.bool false,.bool false,.bool false,.bool false,.bool false,.bool false] 4)).alloc (.cells #[.int .i64 3,.int .i64 3,.int .i64 1,.slice none 0 0,.slice (some ⟨w1.heap.size,0,none⟩) 9 9,.slice none 0 0] 32)) (w1.heap.size+1) w1.heap.size 0 (.slice none 0 0) (.slice none 0 0) [] [] []):=
  ⟨by simp;omega,by omega,EG _,zk.new _ _ _ (by simp),zk.ext (zk.new w1 _ _ rfl) ((zb.refl _).alloc _),⟨rfl,.inl ⟨rfl,rfl⟩⟩,⟨rfl,.inl ⟨rfl,rfl⟩⟩,fun j hj=>absurd hj (by omega),fun j x hj=>by simp at hj⟩
 have a5:Hid (zb w1 _):=((zb.refl w1).alloc (.cells #[.bool false,.bool false,.bool false,.bool false,.bool false,.bool false,.bool false,.bool false,.bool false] 4)).alloc (.cells #[.int .i64 3,.int .i64 3,.int .i64 1,.slice none 0 0,.slice (some ⟨w1.heap.size,0,none⟩) 9 9,.slice none 0 0] 32);generalize (w1.alloc (.cells #[.bool false,.bool false,.bool false,.bool false,.bool false,.bool false,.bool false,.bool false,.bool false] 4)).alloc (.cells #[.int .i64 3,.int .i64 3,.int .i64 1,.slice none 0 0,.slice (some ⟨w1.heap.size,0,none⟩) 9 9,.slice none 0 0] 32)=w2 at a8 a5⊢;obtain ⟨gu,b4⟩:∃g,g=w1.heap.size:=⟨_,rfl⟩;obtain ⟨B,hB⟩:∃g,g=w1.heap.size:=⟨_,rfl⟩;have a2:=a8.out;rw [show XI w1.heap.size w2 (w1.heap.size+1) w1.heap.size=XI B w2 (gu+1) gu from by rw [hB,b4]] at a2;have HB:Hid (B=w1.heap.size):=hB;rw [<-b4] at⊢;obtain ⟨gm,d7⟩:∃g,g=gu+1:=⟨_,rfl⟩;rw [<-d7] at a2⊢;have c6:=zh a2;clear a8 a2 d7 b4 hB;go_upto_region 3 with fail
 go_loopg [10] l.length (fun gk v wr=>∃(k:Nat) (vF vT:Value) (fs ts:List Value),v=.int .i64 k/\k<=l.length/\gk=l.length - k/\Hid (XI B wr gm gu k vF vT fs ts (l.take k)/\zb w1 wr))
 case atStart=>exact ⟨0,_,_,_,_,rfl,EU _,by omega,c6.out,a5.out⟩
 clear c6 a5
 case round=>
  obtain ⟨k,vF,vT,fs,ts,rfl,hk,rfl,M⟩:=hrel;obtain ⟨wR,rfl⟩:∃wR:World,wR=wr:=⟨_,rfl⟩;rcases Fc k l.length with a4 | hge
  ·have f2:decide ((k:Int)<(l.length:Int))=true:=EJ (by omega);have g4:((k:Int)<(l.length:Int)):=by omega
   obtain ⟨x,hx⟩:∃x,l[k]?=some x:=⟨_,EE a4⟩;have e8:=zh hx;have c0:=M.out.2.cell (d4.out k x hx).1;have c1:=M.out.2.cell (d4.out k x hx).2;clear hx;go_upto_region 5 with fail;have a6:Hid (zb wR (wR.alloc (.cells #[.int .i64 x.1,.int .i64 x.2] 70))):=(zb.refl _).alloc _;have a0:Hid (zk (wR.alloc (.cells #[.int .i64 x.1,.int .i64 x.2] 70)) wR.heap.size 70 #[.int .i64 x.1,.int .i64 x.2]):=zk.new wR _ 70 rfl;generalize wR.alloc _=wa at a6 a0⊢;obtain ⟨gx,d8⟩:∃g,g=wR.heap.size:=⟨_,rfl⟩;rw [<-d8] at a0⊢;clear d8 c0 c1;have x0:=zb.rule (a0.out.cell (k:=0) rfl);have x1:=zb.rule (a0.out.cell (k:=1) rfl);have f6:zb wa wa:=zb.refl wa;have f5:=zS wa;have a3:=M.out.1.ext a6.out;have m5:wa.cell? ⟨gm,5,none⟩=some vT:=a3.mz.cell (k:=5) rfl;have b9:Hid ((l.take k).length=k):=by show _=_;rw [FA];omega
   have e5:Hid (wa.ownsRow B 56 3 vT k ts):=by have:=a3.T;rw [b9.out] at this;exact this
   have a9:=zh a3;clear a3
   have L:∀j u,[Value.string ⟨#[]⟩,.slice (some ⟨wa.heap.size,0,none⟩) 1 1,.slice (some ⟨wa.heap.size+1,0,none⟩) 1 1][j]?=some u->((((wa.alloc (.cells #[.int .i64 x.1] 3)).alloc (.cells #[.int .i64 x.2] 3)).alloc (.cells #[.string ⟨#[]⟩,.slice (some ⟨wa.heap.size,0,none⟩) 1 1,.slice (some ⟨wa.heap.size+1,0,none⟩) 1 1] 56))).cell? ((⟨wa.heap.size+1+1,0,none⟩:Addr).add j)=some u:=by
    intro j u h;have h2:=cells3n ((wa.alloc (.cells #[.int .i64 x.1] 3)).alloc (.cells #[.int .i64 x.2] 3)) _ _ _ 56 j u h;rw [show ((wa.alloc (.cells #[.int .i64 x.1] 3)).alloc (.cells #[.int .i64 x.2] 3)).heap.size=wa.heap.size+1+1 from by simp] at h2;exact h2
   have b8:=zh L;clear L
   go_wp2_with (at_builtin;refine wpList_append_own_at _ rfl _ _ 30 rfl B 56 iT (.agg #[.string ⟨#[]⟩,.slice none 0 0,.slice none 0 0]) 3 64 Tryz.underlying30 TF.out TZ0.out TZ1.out TZ2.out rfl (by decide) vT k _ rfl (((e5.out.alloc _).alloc _).alloc _) ⟨wa.heap.size+1+1,0,none⟩ 1 1 [.string ⟨#[]⟩,.slice (some ⟨wa.heap.size,0,none⟩) 1 1,.slice (some ⟨wa.heap.size+1,0,none⟩) 1 1] rfl rfl b8.out (by simp [Value.oneCell']) (by unfold maxLen;omega) (by omega) (by have:=a9.out.hB;simp;omega) ?_)
   intro v' w9 G hg _ b5;obtain ⟨gv,cv,rfl,-,-⟩:=World.ownsRow.form G (by omega);have I:zb wa ((wa.alloc (.cells #[.int .i64 x.1] 3)).alloc (.cells #[.int .i64 x.2] 3)):=((zb.refl _).alloc _).alloc _;have z:=a9.out.ext I;have b0:=a9.out.hB;obtain ⟨b1,c8⟩:=z.addT (g1:=wa.heap.size) (g2:=wa.heap.size+1) (x:=x) (by omega) (by omega) (zk.ext (zk.new wa _ 3 rfl) ((zb.refl _).alloc _)) (zk.new _ _ 3 (by simp)) (by rw [b9.out];exact G) hg;have E:=(hg.block gm (by have:=zd z.mz;simp at this⊢;omega) (fun e=>zm z.T z.mz (by decide) e.symm)).trans (EY _ _ _ (zd z.mz));have O:zk w9 gm 32 _:=E.trans z.mz;have d5:w9.cell? ⟨gm,5,none⟩=some vT:=O.cell (k:=5) rfl;have d6:∀j,w9.frozen? ⟨gm,j,none⟩=false:=fun j=>O.frozen j
   have d9:l.take k++[x]=l.take (k+1):=by rw [List.take_add_one,e8.out];rfl
   rw [d9] at b1;have Q:=zh b1;have b7:Hid (zb w1 (w9.setCell ⟨gm,5,none⟩ (.slice (some ⟨gv,0,none⟩) (k+1) cv))):=Below.trans ((M.out.2.trans a6.out).trans I) (HB.out ▸ c8);clear b1 c8 G hg b5 E O d9 z I x0 x1 f6 f5 m5 b0;go_upto_region 6 with fail;clear d5 d6;generalize w9.setCell ⟨gm,5,none⟩ (.slice (some ⟨gv,0,none⟩) (k+1) cv)=wv at Q b7⊢;have m3:wv.cell? ⟨gm,3,none⟩=some vF:=Q.out.mz.cell (k:=3) rfl
   have L:∀j u,[Value.slice (some ⟨wv.heap.size,0,none⟩) 9 9][j]?=some u->(((wv.alloc (.cells exC 4)).alloc (.cells #[.slice (some ⟨wv.heap.size,0,none⟩) 9 9] 29))).cell? ((⟨wv.heap.size+1,0,none⟩:Addr).add j)=some u:=by
    intro j u h;have h2:=cell_one_new (wv.alloc (.cells exC 4)) (.slice (some ⟨wv.heap.size,0,none⟩) 9 9) 29 j u h;rw [show (wv.alloc (.cells exC 4)).heap.size=wv.heap.size+1 from by simp] at h2;exact h2
   have a7:=zh L;clear L
   go_wp2_with (at_builtin;refine wpList_append_own_at _ rfl _ _ 28 rfl B 29 iL (.slice none 0 0) 1 24 Tryz.underlying28 LF.out LZ0.out LZ1.out LZ2.out rfl (by decide) vF k _ rfl ((Q.out.F.alloc _).alloc _) ⟨wv.heap.size+1,0,none⟩ 1 1 [.slice (some ⟨wv.heap.size,0,none⟩) 9 9] rfl rfl a7.out (by simp [Value.oneCell']) (by unfold maxLen;omega) (by omega) (by have:=Q.out.hB;simp;omega) ?_)
   intro v2 w9 G hg _ b5;obtain ⟨gv2,cv2,rfl,-,-⟩:=World.ownsRow.form G (by omega);have I:zb wv (wv.alloc (.cells exC 4)):=(zb.refl _).alloc _;have z:=Q.out.ext I;have b0:=Q.out.hB;obtain ⟨c7,c9⟩:=z.addF (g1:=wv.heap.size) (by omega) (zk.new wv _ 4 rfl) G hg;have E:=(hg.block gm (by have:=zd z.mz;simp at this⊢;omega) (fun e=>zm z.F z.mz (by decide) e.symm)).trans (EY _ _ _ (zd z.mz));have O:zk w9 gm 32 _:=E.trans z.mz;have d5:w9.cell? ⟨gm,3,none⟩=some vF:=O.cell (k:=3) rfl;have d6:∀j,w9.frozen? ⟨gm,j,none⟩=false:=fun j=>O.frozen j
   have e6:=zh c7;have e3:Hid (zb w1 (w9.setCell ⟨gm,3,none⟩ (.slice (some ⟨gv2,0,none⟩) (k+1) cv2))):=Below.trans (b7.out.trans I) (HB.out ▸ c9);clear c7 c9 G hg b5 E O z I m3 b0
   go_wp2_with fail
   go_roundg (l.length - (k+1))
   case measure=>omega
   case rel=>exact ⟨k+1,_,_,_,_,by go_num,a4,rfl,e6.out,e3.out⟩
  ·have f2:decide ((k:Int)<(l.length:Int))=false:=EK (by omega);have f4:k=l.length:=by omega
   subst f4;have D:=M.out.1;rw [ER] at D;obtain ⟨Af,cf,rfl,-,-⟩:=AI.of_own D.F;obtain ⟨At,ct,rfl,-,-⟩:=AI.of_own D.T;have c0:=D.mz.cell (k:=0) rfl;have c1:=D.mz.cell (k:=1) rfl;have c2:=D.mz.cell (k:=2) rfl;have c3:=D.mz.cell (k:=3) rfl;have c4:=D.mz.cell (k:=4) rfl;have c5:=D.mz.cell (k:=5) rfl;have J:=zh (zk.ext a1.out M.out.2);have z0:=J.out.cell (k:=0) rfl;have z1:=J.out.cell (k:=1) rfl;have z2:=J.out.cell (k:=2) rfl;have z3:=J.out.cell (k:=3) rfl;have z4:=J.out.cell (k:=4) rfl;have z5:=J.out.cell (k:=5) rfl;have hfz:∀j,wR.frozen? ⟨g0,j,none⟩=false:=fun j=>J.out.frozen j
   have e7:=zh D;clear D hge;go_wp2;refine DF (P:=fun W=>bodyPost Tryz.prog Tryz.f33 _ Exit.ret _ W) (g2:=g0) ?_ J.out;intro WZ U I f3;have y0:=U.cell (k:=0) rfl;have y1:=U.cell (k:=1) rfl;have y2:=U.cell (k:=2) rfl;have y3:=U.cell (k:=3) rfl;have y4:=U.cell (k:=4) rfl;have y5:=U.cell (k:=5) rfl;refine FC (v:=.agg #[.int .i64 3,.int .i64 3,.int .i64 1,.slice Af l.length cf,.slice (some ⟨gu,0,none⟩) 9 9,.slice At l.length ct]) (by simp [results,Tryz.results33,go_sem,y0,y1,y2,y3,y4,y5]) rfl ?_;refine ⟨_,rfl,Below.trans (V.out.trans M.out.2) (I.mono (by have:=e4.out;omega)),?_⟩;have g3:g0<B:=by rw [HB.out];exact zd a1.out
   have f0:w.heap.size<=B:=by rw [HB.out];exact V.out.size
   exact (e7.out.maze.keep fun b hb a4=>f3 b a4 (by omega)).weaken fun b hb=>EI f0 hb
theorem endB_none (h:pp.getD t []=[]):endB m pp t=false:=by
 unfold endB;rw [h];rfl
theorem endB_snoc {q:List Int} {x:Int} (h:pp.getD t []=q++[x]):endB m pp t=decide (x∈(m.tasks.getD t ([],[])).2):=by
 unfold endB;rw [h,List.getLast?_append];rfl
theorem vfinished_calls (t:Nat) (w:World) (hm:zw w ok v m) (hl:Lens m) (hp:zv w okp vp pp) (c4:pp.length<=m.tasks.length) (a8:∀x∈pp,x.length<=20000000000000):
  Calls Tryz.prog 122 #[v,vp,.int .i64 t] w fun e w'=>e=.returned (.bool (endB m pp t))/\zb w w':=by
 obtain ⟨Af,cf,Au,cu,At,ct,rfl,-,-,b1⟩:=hm.parts;have b6:=zh b1;have HL:=zh hl;obtain ⟨vps,⟨Ap,cp,rfl,d6,a9⟩,a4⟩:=hp;have b5:=zh a9;have b2:=zh a4;have d4:=zh c4;have b4:=zh a8;have c7:(pp.length:Int)<=(m.tasks.length:Int):=by omega
 have e5:=hl.ts;clear hm hl b1 a9 a4 a8;obtain ⟨fb,Q⟩:=zad (endB m pp t);rw [<-Q];have M:=zh Q;clear Q
 go_enter Tryz.func122,Tryz.ntmps122
 go_upto_region 1 with fail;obtain ⟨O,r0,r1,r2,r3,r4,r5⟩:=box6 w (.int .i64 m.w) (.int .i64 m.h) (.int .i64 m.l) (.slice Af m.free.length cf) (.slice Au m.up.length cu) (.slice At m.tasks.length ct);generalize w.alloc _=w1 at O r0 r1 r2 r3 r4 r5⊢;obtain ⟨gm,a5⟩:=zad w.heap.size;rw [<-a5] at r0 r1 r2 r3 r4 r5⊢;clear a5;have z:=zh O;have hx:zb w1 w1:=zb.refl w1;clear O;have t0:(0:Int)<=(t:Int):=by omega
 by_cases J:t<pp.length
 ·have L:(t:Int)<(pp.length:Int):=by omega
  have G:t<m.tasks.length:=by omega
  have b9:(t:Int)<(m.tasks.length:Int):=by omega
  obtain ⟨bp,offp,up,rfl,-,I,U⟩:=Ai b5.out b2.out J J;have E:=b4.out _ (EH J);have T:pp.getD t []=pp[t]:=zgd J
  obtain ⟨P,a2⟩:=zad (pp[t]);rw [<-a2] at U E T;have a0:=zh T;clear a2 T;have rq:=zb.rule (z.out.cell I);clear I;rcases (show P=[]\/∃q x,P=q++[x] from by by_cases h:P=[];exact .inl h;exact .inr ⟨_,_,(List.dropLast_concat_getLast h).symm⟩) with rfl | ⟨q,x,rfl⟩
  ·have V:Hid (fb=false):=by show _=_;rw [M.out];exact endB_none a0.out
   obtain ⟨Aq,cq,rfl,-,-⟩:=U;clear E
   go_wp2_with fail
   go_ret;exact ⟨ze V.out.symm,z.out⟩
  ·obtain ⟨Aq,cq,rfl,I,b0⟩:=U;obtain ⟨bq,offq,e,-,D⟩:=zy b0 (k:=q.length) (by simp) (by simp);have D:w.cell? ⟨bq,offq+q.length,none⟩=some (.int .i64 x):=by rw [D];simp
   subst e;obtain ⟨bt,offt,sn,u1,u2,rfl,-,-,-,a3,-,a7⟩:=AJ b6.out G;have e6:=(HL.out.tl _ (EH G)).2;have a6:m.tasks.getD t ([],[])=m.tasks[t]:=zgd G
   have V:Hid (fb=decide (x∈(m.tasks[t]).2)):=by show _=_;rw [M.out,endB_snoc a0.out,a6]
   clear a6;obtain ⟨N,hN⟩:=zad ((q++[x]).length);obtain ⟨n,hn⟩:=zad q.length;have a1:N=n+1:=by rw [hN,hn];simp
   rw [<-hN] at rq E I;rw [<-hn] at D;have rx:=zb.rule (z.out.cell D);have rt2:=zb.rule (z.out.cell a3);have b3:=zh (a7.below z.out);obtain ⟨Au2,cu2,rfl,-,-⟩:=a7;have e4:IntKind.i64.wrap ((N:Int) - 1)=(n:Int):=by rw [Fb];omega
   have d7:(0:Int)<=(n:Int):=by omega
   have d8:(n:Int)<(N:Int):=by omega
   have c5:¬ ((N:Int)=0):=by omega
   have d9:((N:Int)==0)=false:=by rw [ET];omega
   have e0:¬ ((pp.length:Int)<=(t:Int)):=by omega
   have e3:decide (pp.length<=t)=false:=EK (by omega);have HQ:=zh a1;clear b0 hN hn D a3 a1 c5
   go_wp2_with fail
   go_region_held3 (fun w'=>zb w1 w') (first | (exact hx.drew) | assumption) ((go_at_call 12;refine (zU x _ (b3.out.below hx.drew) (by omega)).mono ?_;rintro e w9 ⟨rfl,rfl⟩))
   rename_i hS
   go_wp2_with fail
   go_ret;exact ⟨ze V.out.symm,z.out.trans hS⟩
 ·have L:¬ ((t:Int)<(pp.length:Int)):=by omega
  have c6:(pp.length:Int)<=(t:Int):=by omega
  have V:Hid (fb=false):=by
   show _=_;rw [M.out];exact endB_none (by rw [EF,EZ (by omega)];rfl)
  clear L
  go_wp2_with fail
  go_ret;exact ⟨ze V.out.symm,z.out⟩
theorem Dy (w:World) (hm:zw w ok v m) (hl:Lens m) (hp:zv w okp vp pp) (a2:pp.length<=m.tasks.length) (J:∀x∈pp,x.length<=20000000000000):
  Calls Tryz.prog 95 #[v,vp] w fun e w'=>e=.returned (.int .i64 (curF m pp pp.length 0))/\zb w w':=by
 have HM:=zh hm;have HL:=zh hl;have HP:=zh hp;have Q:=zh J;obtain ⟨Af,cf,Au,cu,At,ct,rfl,-,-,-⟩:=hm.parts;obtain ⟨vps,⟨Ap,cp,rfl,-,-⟩,-⟩:=hp;have b0:=hl.ts;clear hm hl J
 go_enter Tryz.func95,Tryz.ntmps95
 go_upto_region 1 with fail;obtain ⟨E,r0,r1,r2,r3,r4,r5⟩:=box6 w (.int .i64 m.w) (.int .i64 m.h) (.int .i64 m.l) (.slice Af m.free.length cf) (.slice Au m.up.length cu) (.slice At m.tasks.length ct);generalize w.alloc _=w1 at E r0 r1 r2 r3 r4 r5⊢;obtain ⟨gm,I⟩:=zad w.heap.size;rw [<-I] at r0 r1 r2 r3 r4 r5⊢;clear I;have D:=zh E;clear E
 go_wp2_with fail
 obtain ⟨N,U⟩:=zad pp.length;have M:=zh U;have a9:N<=20000000000000:=by omega
 rw [<-U];clear U;go_loopw [5] (fun i wr=>∃k:Nat,k<=N/\i=.int .i64 k/\Hid (curF m pp (N - k) k=curF m pp N 0)/\Hid (zb w1 wr)) (fun i _=>N - (intOf i).toNat)
 case atStart=>exact ⟨0,EU _,rfl,rfl,zb.refl w1⟩
 case round=>
  obtain ⟨k,hk,rfl,G,hE⟩:=hrel;obtain ⟨wk,rfl⟩:∃wk:World,wk=wr:=⟨_,rfl⟩;have hx:zb w1 wk:=hE.out
  have HV:Hid (Calls Tryz.prog 122 #[.agg #[.int .i64 m.w,.int .i64 m.h,.int .i64 m.l,.slice Af m.free.length cf,.slice Au m.up.length cu,.slice At m.tasks.length ct],.slice Ap N cp,.int .i64 k] wk fun e w'=>e=.returned (.bool (endB m pp k))/\zb wk w'):=by
   (show Calls _ _ _ _ _)
   rw [M.out];exact vfinished_calls k wk (HM.out.below (D.out.trans hx)) HL.out (HP.out.below (D.out.trans hx)) a2 Q.out
  go_wp2_with fail
  refine HV.out.mono ?_;rintro e w9 ⟨rfl,T⟩;have L:zb w1 w9:=zb.trans ‹_› T;obtain ⟨b,V⟩:=zad (endB m pp k);rw [<-V];have O:=zh V;clear V HV
  cases b with
  | true=>
   have a1:k<N:=by
    rw [M.out];refine Decidable.byContradiction fun h=>?_
    have:=O.out;rw [endB_none (by rw [EF,EZ (by omega)];rfl)] at this;cases this
   have z:Hid (curF m pp (N - (k+1)) (k+1)=curF m pp N 0):=by
    show _=_;rw [<-G.out,show N - k=(N - (k+1))+1 from by omega]
    conv=>rhs;unfold curF
    rw [if_pos ⟨by rw [<-M.out];exact a1,O.out.symm⟩]
   have b1:IntKind.i64.wrap ((k:Int)+1)=(k:Int)+1:=by rw [Fb];omega
   go_wp2_with fail
   go_roundw
   case rel=>exact ⟨k+1,by omega,by go_num,z,L⟩
   case measure=>simp [intOf];omega
  | false=>
   have z:Hid (curF m pp N 0=k):=by
    show _=_;rw [<-G.out]
    cases N - k with
    | zero=>rfl
    | succ n=>
     unfold curF;rw [if_neg (fun h=>by rw [<-O.out] at h;exact absurd h.2 (by simp))]
   go_wp2_with fail
   go_ret;exact ⟨(show Ending.returned (Value.int .i64 ((k:Nat):Int))=.returned (.int .i64 ((curF m pp pp.length 0:Nat):Int)) from by have h:=z.out;rw [M.out] at h;rw [h]),D.out.trans L⟩
theorem vComplete_calls (w:World) (hm:zw w ok v m) (hl:Lens m) (hc:AO m=0) (M:zj w okc vc ch) (hi:zx m ch):
  Calls Tryz.prog 99 #[v,vc] w fun e w'=>e=.returned (.bool (decide (m.tasks.length<=zR m ch)))/\zb w w':=by
 have HM:=zh hm;have HL:=zh hl;have HC:=zh hc;have HI:=zh hi;have U:=zh M;have E:=zh (AG hc hi);obtain ⟨Af,cf,Au,cu,At,ct,rfl,-,-,-⟩:=hm.parts;obtain ⟨Ac,cc,rfl,-,-⟩:=M;have b0:=hl.ts;clear hm hl hc hi;obtain ⟨c,J⟩:=zad (zR m ch);rw [<-J];have V:=zh J;clear J
 go_enter Tryz.func99,Tryz.ntmps99
 go_upto_region 1 with fail;obtain ⟨I,r0,r1,r2,r3,r4,r5⟩:=box6 w (.int .i64 m.w) (.int .i64 m.h) (.int .i64 m.l) (.slice Af m.free.length cf) (.slice Au m.up.length cu) (.slice At m.tasks.length ct);generalize w.alloc _=w1 at I r0 r1 r2 r3 r4 r5⊢;obtain ⟨gm,O⟩:=zad w.heap.size;rw [<-O] at r0 r1 r2 r3 r4 r5⊢;clear O;have z:=zh I;clear I;have hx:zb w1 w1:=zb.refl w1
 go_wp2_with fail
 refine (DX w1 (HM.out.below z.out) HL.out (U.out.below z.out) (by have:=E.out;omega)).mono ?_;rintro e w2 ⟨vp,rfl,G,Q⟩;have a0:=zh Q;have T:zb w1 w2:=G;obtain ⟨_,⟨Ap,cp,rfl,-,-⟩,-⟩:=Q
 have HV:Hid (∀W,zb w2 W->Calls Tryz.prog 95 #[.agg #[.int .i64 m.w,.int .i64 m.h,.int .i64 m.l,.slice Af m.free.length cf,.slice Au m.up.length cu,.slice At m.tasks.length ct],.slice Ap (zq m ch).length cp] W fun e w'=>e=.returned (.int .i64 c)/\zb W w'):=fun W hW=>by
  rw [V.out];exact Dy W (HM.out.below ((z.out.trans G).trans hW)) HL.out (a0.out.below hW) E.out.1 (fun x hx=>by have:=(E.out.2.2.2 x hx).2;omega)
 clear G;obtain ⟨PL,D⟩:=zad ((zq m ch).length);rw [<-D] at HV⊢;clear D;have hy:zb w2 w2:=zb.refl w2
 go_wp2_with fail
 go_region_held3 (fun w'=>zb w1 w'/\zb w2 w') (first | (exact ⟨T.drew,hy.drew⟩) | (exact ⟨T.drew.trans L,hy.drew.trans L⟩)) ((go_at_call 95;refine (HV.out _ hy.drew).mono ?_;rintro e w9 ⟨rfl,L⟩))
 rename_i hS
 go_wp2_with fail
 go_ret;exact ⟨by simp,z.out.trans hS.1⟩
theorem vhead_calls (tk:Nat) (w:World) (hm:zw w ok v m) (hl:Lens m) (hc:AO m=0) (b8:zj w okc vc ch) (hi:zx m ch) (hp:zv w okp vp (zq m ch)) (a0:tk<m.tasks.length):
  Calls Tryz.prog 123 #[v,vc,vp,.int .i64 tk] w fun e w'=>∃v',e=.returned v'/\zb w w'/\zj w' (fun b=>w.heap.size<=b) v' (AE m ch tk):=by
 have a7:=AG hc hi;have G:=zh (zC.of hc);have HL:=zh hl;have f0:=zh G.out.fl;have e7:=zh b8;obtain ⟨Af,cf,Au,cu,At,ct,rfl,hf,-,d7⟩:=hm.parts;have HF:=zh hf;obtain ⟨Ac,cc,rfl,-,-⟩:=b8;obtain ⟨vps,⟨Ap,cp,rfl,T,d5⟩,c0⟩:=hp;have f5:=zh d7;have b3:=zh d5;have e9:=zh c0;obtain ⟨PL,hP⟩:=zad ((zq m ch).length);rw [<-hP] at b3⊢;clear hf d7 d5 c0 hl hc hm T;by_cases g8:tk<PL
 ·obtain ⟨i8,i0,-,c9⟩:=a7;have V:tk<(zq m ch).length:=by omega
  obtain ⟨bp,offp,up,rfl,-,T,d8⟩:=Ai b3.out e9.out g8 V;obtain ⟨a2,a4⟩:=c9 _ (EH V)
  have I:Hid (AE m ch tk=((zq m ch)[tk]).getLast?.toList):=by
   show _=_;unfold AE;rw [if_pos V,EF,EE V];rfl
  obtain ⟨P,b6⟩:=zad ((zq m ch)[tk]);rw [<-b6] at d8 a2 a4 I;clear b6 c9 hi;obtain ⟨q,x,rfl⟩:∃q x,P=q++[x]:=⟨P.dropLast,P.getLast a2,(List.dropLast_concat_getLast a2).symm⟩;obtain ⟨Aq,cq,rfl,b9,d6⟩:=d8;obtain ⟨bq,offq,e,-,U⟩:=zy d6 (k:=q.length) (by simp) (by simp);have U:w.cell? ⟨bq,offq+q.length,none⟩=some (.int .i64 x):=by rw [U];simp
  subst e;obtain ⟨N,hN⟩:=zad ((q++[x]).length);obtain ⟨n,hn⟩:=zad q.length;have f9:N=n+1:=by rw [hN,hn];simp
  rw [<-hN] at T a4 b9;rw [<-hn] at U
  have f1:Hid (AE m ch tk=[x]):=by
   show _=_;rw [I.out,List.getLast?_append];rfl
  clear d6 hN hn I a2 hP;have k0:(0:Int)<=(tk:Int):=by omega
  have k1:(tk:Int)<(PL:Int):=by omega
  have j2:IntKind.i64.wrap ((N:Int) - 1)=(n:Int):=by rw [Fb];omega
  have i9:(0:Int)<=(n:Int):=by omega
  have j0:(n:Int)<(N:Int):=by omega
  have j1:(0:Int)<(N:Int):=by omega
  go_enter Tryz.func123,Tryz.ntmps123
  go_upto_region 1 with fail;obtain ⟨D,r0,r1,r2,r3,r4,r5⟩:=box6 w (.int .i64 m.w) (.int .i64 m.h) (.int .i64 m.l) (.slice Af m.free.length cf) (.slice Au m.up.length cu) (.slice At m.tasks.length ct);generalize w.alloc _=w1 at D r0 r1 r2 r3 r4 r5⊢;obtain ⟨gm,M⟩:=zad w.heap.size;rw [<-M] at r0 r1 r2 r3 r4 r5⊢;have i2:Hid (gm=w.heap.size):=M;clear M;have hx:zb w1 w1:=zb.refl w1;have z:=zh D;clear D;have qp:=zb.rule (z.out.cell T);have qx:=zb.rule (z.out.cell U);clear T f9 b9 V U
  go_wp2_with fail
  refine EW (S:=(fun W=>zb w1 W)) Ag (hx.drew) fun zH=>?_;have a6:zb w1 w1.drew:=zH;generalize w1.drew=wd at zH a6⊢;refine zf 0 zH ?_;refine zf 1 zH ?_;simp only [za,ED];refine zf 2 zH ?_;refine zf 3 zH ?_;simp only [za,ED];refine zf 4 zH ?_;refine zf 5 zH ?_;simp only [za,ED];refine zf 6 zH ?_;refine zf 7 zH ?_;simp only [za,ED];refine zf 8 zH ?_;refine zf 9 zH ?_;simp only [za,ED];refine zf 10 zH ?_;refine zf 11 zH ?_;simp only [za,ED];refine zE 12 fun K hK=>?_;go_simp;have hA:zb w1 (wd.alloc (.cells #[.int .i64 x] 3)):=a6.alloc _;have hB:zk (wd.alloc (.cells #[.int .i64 x] 3)) wd.heap.size 3 #[.int .i64 x]:=zk.new _ _ _ rfl;generalize wd.alloc _=wb at hA hB⊢;refine zae hK (hA) fun zH=>?_;clear hK K;try simp only [za,ED]
  refine zE 13 fun K hK=>?_;go_simp;refine zae hK (hA) fun zH=>?_;clear hK K;try simp only [za,ED]
  refine Fk (by kernel_rfl) ?_ _;go_wp2;go_ret;refine ⟨_,rfl,z.out.trans hA,?_⟩;rw [f1.out];refine ⟨_,_,rfl,EG _,rfl,fun _=>⟨wd.heap.size,0,rfl,EI z.out.size a6.size,fun j u hu=>?_⟩⟩
  match j,hu with
  | 0,hu=>
   have:u=.int .i64 x:=by simpa using hu.symm
   rw [this];exact hB.cell (k:=0) rfl
 ·obtain ⟨bt,offt,sn,u1,u2,rfl,-,-,Q,-,a8,-⟩:=AJ f5.out a0;have b0:=fun x hx=>G.out.tn _ (EH a0) x (.inl hx)
  have c4:=(HL.out.tl _ (EH a0)).1
  have I:Hid (AE m ch tk=((m.tasks[tk]).1).filter fun n=>zi m tk n && !decide (n∈ch)):=by
   show _=_;unfold AE;rw [if_neg (by omega),EF,EE a0];rfl
  obtain ⟨L,hL⟩:=zad ((m.tasks[tk]).1);rw [<-hL] at a8 b0 c4 I;clear hL;have f4:=zh b0;have e8:Hid (ch.length<=300):=a7.2.2.1;have b4:Hid (tk<m.free.length):=by show _<_;rw [f0.out];exact a0
  have k0:(0:Int)<=(tk:Int):=by omega
  have k1:(tk:Int)<(m.tasks.length:Int):=by omega
  have k2:¬ ((tk:Int)<(PL:Int)):=by omega
  clear b0 a7 hi hP;obtain ⟨p,a9⟩:∃p:Int->Bool,p=fun n=>zi m tk n && !decide (n∈ch):=⟨_,rfl⟩
  rw [<-a9] at I;have f3:=zh a9;clear a9
  go_enter Tryz.func123,Tryz.ntmps123
  go_upto_region 1 with fail;obtain ⟨D,r0,r1,r2,r3,r4,r5⟩:=box6 w (.int .i64 m.w) (.int .i64 m.h) (.int .i64 m.l) (.slice Af m.free.length cf) (.slice Au m.up.length cu) (.slice (some ⟨bt,offt,none⟩) m.tasks.length ct);generalize w.alloc _=w1 at D r0 r1 r2 r3 r4 r5⊢;obtain ⟨gm,M⟩:=zad w.heap.size;rw [<-M] at r0 r1 r2 r3 r4 r5⊢;clear M;have hx:zb w1 w1:=zb.refl w1;have z:=zh D;clear D;have qt:=zb.rule (z.out.cell Q);have f2:=zh (a8.below z.out);obtain ⟨Al,cl,rfl,i5,-⟩:=a8;clear Q
  go_wp2_with fail
  have b2:=zh (Mk.nil w1);go_loopw [9,11] (fun v i wr=>∃k:Nat,k<=L.length/\i=.int .i64 (k:Nat)/\Hid (Mk w1 wr v ((L.take k).filter p))) (fun _ i _=>L.length - (intOf i).toNat)
  case atStart=>exact ⟨0,EU _,rfl,b2⟩
  clear b2
  case round=>
   obtain ⟨k,hk,rfl,hM⟩:=hrel;have hx:zb w1 wr:=hM.out.ext;obtain ⟨wk,rfl⟩:∃wk:World,wk=wr:=⟨_,rfl⟩;by_cases J:k<L.length
   ·obtain ⟨A',c',e,-,d4⟩:=f2.out;injection e with e1 e2 e3;subst e1 e3;obtain ⟨bl,offl,rfl,-,E⟩:=zy d4 J J;clear d4;obtain ⟨d9,e0⟩:=f4.out _ (EH J);have a1:=EN J;obtain ⟨x,e5⟩:=zad (L[k]);rw [<-e5] at E d9 e0 a1;clear e5;have HT:=zh a1;have rx:=zb.rule E;clear a1 E;obtain ⟨bf,off,b',off',l,c',rfl,Q,hl,i7,i6,b7⟩:=De HF.out G.out.fn b4.out d9 e0;have q1:=zb.rule (z.out.cell Q);have q2:=zb.rule (z.out.cell b7);have kk0:(0:Int)<=(k:Int):=by omega
    have kk1:(k:Int)<(L.length:Int):=by omega
    have kf1:(tk:Int)<(m.free.length:Int):=by have:=b4.out;omega
    have hp:Hid (p x=(zi m tk x && !decide (x∈ch))):=by (show _=_);rw [f3.out]
    obtain ⟨fv,c5⟩:=zad (zi m tk x);rw [<-c5] at q2 hp;clear c5 Q b7;have g7:((L.take k).filter p).length<=L.length:=EI (Fi _ _) (by simp;omega);go_upto_region 8 with fail;go_cut [68] (fun v wx=>v=.bool (p x)/\zb wk wx)
    case first=>
     cases fv with
     | false=>
      have a3:zb wk wk:=zb.refl wk;go_quiet (fail)
      go_wp2_with fail
      go_meet
      first | exact ⟨by rw [hp.out,Bool.false_and],a3.drew⟩ | exact ⟨by rw [hp.out,Bool.false_and],a3.drewN _⟩
     | true=>
      have a3:zb wk wk:=zb.refl wk
      go_region_held3 (fun w'=>zb w1 w'/\zb wk w') (first | (exact ⟨hx.drew,a3.drew⟩) | assumption) ((go_at_call 12;refine (zU x _ (e7.out.below (z.out.trans hx.drew)) (by have:=e8.out;omega)).mono ?_;rintro e w9 ⟨rfl,rfl⟩))
      rename_i hS
      go_wp2_with fail
      go_meet;exact ⟨by rw [hp.out,Bool.true_and],hS.2⟩
    case rest=>
     obtain ⟨rfl,h5⟩:=hcut;have O:=zh (hM.out.more h5);have e4:=O.out.ext
     cases hb:p x with
     | true=>
      have HS:Hid ((L.take (k+1)).filter p=(L.take k).filter p++[x]):=by show _=_;rw [HT.out,Fv,FB hb];rfl
      clear hb;obtain ⟨l,c7⟩:=zad ((L.take k).filter p);rw [<-c7] at O g7 HS;clear c7
      go_wp2_with (at_builtin;refine AQ rfl _ _ rfl _ l x w1.heap.size wc.heap.size 1 _ rfl rfl (O.out.own.alloc _) ?d1 ?d2 ?d3 ?_)
      (try case d1=>exact zr _ _ _ (by simp))
      case d2=>(first | (simp;done) | (have:=e4.size;simp;omega) | (have:=e4.size;omega))
      case d3=>omega
      intro v' wb c8 c6 g3;have f7:=zh ((O.out.alloc _).app c8 c6);clear c8 c6 g3;go_wp2;go_roundw
      case rel=>exact ⟨k+1,by omega,by go_num,by rw [HS.out];exact f7⟩
      case measure=>simp [intOf];omega
     | false=>
      have HS:Hid ((L.take (k+1)).filter p=(L.take k).filter p):=by show _=_;rw [HT.out,Fv,Fp (by rw [hb];simp),List.filter_nil,List.append_nil]
      clear hb;go_wp2;go_roundw
      case rel=>exact ⟨k+1,by omega,by go_num,by rw [HS.out];exact O⟩
      case measure=>simp [intOf];omega
   ·obtain rfl:k=L.length:=by omega
    go_wp2;go_ret;refine ⟨_,rfl,z.out.trans hx,?_⟩;rw [I.out];have h:=hM.out.ints;rw [ER] at h;exact h.weaken (fun b hb=>EI z.out.size hb)
end
end Go.Proofs.YthbjngbhbbkkgaaGreat
