import Derived.Test.YtjomnbdjajjgfaaGreatDoorWKr
set_option linter.unusedVariables false
set_option linter.unusedSimpArgs false
set_option maxRecDepth 100000
set_option maxHeartbeats 16000000
namespace Go.Proofs.YtjomnbdjajjgfaaGreatDoor
variable {a:Act} {R:Ending->World->Prop} {fs:List Value} {g gp k n:Nat} {ok:Nat->Prop} {o:Obj} {s:Rd} {t u vF x y z:Value} {W W0 w w2:World}
section
open Go.RowKit
attribute [local go_sem ↓] Go.wp_at_zero Go.wp_at_succ
def exA:Array Value:=#[.bool true,.bool true,.bool true,.bool true,.bool false,.bool true,.bool true,.bool true,.bool true]
theorem fin_wp {P:Program} {c:Code} {Q:Exit->Act->World->Prop} (w:World) (os:List Obj) (h:∀W,za w W->(∀(i:Nat) o,os[i]?=some o->W.heap[w.heap.size+i]?=some o)->c.wp P Q a W):c.wp P Q a (os.foldl World.alloc w):=h _ (Dd os w) (fun i o B=>allocs_at os w i o B)
structure FI (W0:World) (g:Nat) (u t:Value) (w:World) (k:Nat) (vF:Value) (fs:List Value):Prop where
 ch:zp (·=g) W0 w
 mz:zd w g 32 #[.int .i64 3,.int .i64 3,.int .i64 1,vF,u,t]
 F:w.ownsRow W0.heap.size 29 1 vF k fs
 fd:∀j,j<k->∃h,fs[j]?=some (.slice (some ⟨h,0,none⟩) 9 9)/\W0.heap.size<=h/\zd w h 4 exA
theorem FI.mid (h:FI W0 g u t w k vF fs) (B:za w ((w.alloc (.cells exA 4)).alloc o)) (D:((w.alloc (.cells exA 4)).alloc o).grownBy w2 vF.ownBlock):zd w2 g 32 #[.int .i64 3,.int .i64 3,.int .i64 1,vF,u,t]:=
 (D.block g (by have:=zc h.mz;simp;omega) (fun e=>zl h.F h.mz (by decide) e.symm)).trans (h.mz.ext B)
theorem FI.add {v':Value} (h:FI W0 g u t w k vF fs) (J:za w ((w.alloc (.cells exA 4)).alloc o)) (L:w2.ownsRow W0.heap.size 29 1 v' (k+1) (fs++[.slice (some ⟨w.heap.size,0,none⟩) 9 9])) (I:((w.alloc (.cells exA 4)).alloc o).grownBy w2 vF.ownBlock):
  FI W0 g u t (w2.setCell ⟨g,3,none⟩ v') (k+1) v' (fs++[.slice (some ⟨w.heap.size,0,none⟩) 9 9]):=by
 have Q:zd ((w.alloc (.cells exA 4)).alloc o) w.heap.size 4 exA:=(zd.new w exA 4 rfl).ext ((za.refl _).alloc _);have E:∀x ty cs,zd w x ty cs->ty≠29->zd w2 x ty cs:=fun x ty cs B ht=>(I.block x (by have:=zc B;simp;omega) (fun e=>zl h.F B (Ne.symm ht) e.symm)).trans (B.ext J)
 have G:zd w2 w.heap.size 4 exA:=(I.block _ (by simp;omega) (fun e=>by have:=(World.ownsRow.lt h.F _ e.symm).2;omega)).trans Q;have D:=E g _ _ h.mz (by decide);have M:∀x ty cs,zd w2 x ty cs->ty≠32->zd (w2.setCell ⟨g,3,none⟩ v') x ty cs:=fun x ty cs B ht=>B.setOther (a:=⟨g,3,none⟩) (zd.ne_ B D ht) _
 have K:fs.length=k*1:=h.F.1;refine ⟨((h.ch.tr (Cb J)).grown I (fun x B U=>by have:=(World.ownsRow.lt h.F _ B).1;omega)).set g 3 v' rfl,D.set (k:=3) v',zv L (fun x B=>Ea w2 ⟨g,3,none⟩ _ x (fun e=>zl L D (by decide) (by rw [B];exact congrArg some e))),fun j V=>?_⟩;rcases En j k with h1 | h1
 ·obtain ⟨x,h2,h3,O⟩:=h.fd j h1;exact ⟨x,by rw [DW (by omega)];exact h2,h3,M _ _ _ (E _ _ _ O (by decide)) (by decide)⟩
 ·have:j=k:=by omega
  subst this;exact ⟨w.heap.size,by rw [DX (by omega),show j - fs.length=0 by omega];rfl,h.ch.size,M _ _ _ G (by decide)⟩
theorem AQ (a b:Int) (w:World):Calls Tryz.prog 56 #[.int .i64 a,.int .i64 b] w fun e w'=>∃v,e=.returned v/\za w w'/\zt w' (fun x=>w.heap.size<=x) v (exM a b):=by
 have c8:∀w,(Instr.makeSlice 29 (.int .i64 9) (.int .i64 9)).run Tryz.prog w=.ok (.slice (some ⟨w.heap.size,0,none⟩) 9 9) (w.alloc (.cells #[.bool false,.bool false,.bool false,.bool false,.bool false,.bool false,.bool false,.bool false,.bool false] 4)):=fun _=>by kernel_rfl
 go_enter Tryz.func56,Tryz.ntmps56
 go_wp2_with fail
 refine fin_wp w [_,_,_,_,_,_,_,_] fun W0 a2 J=>?_
 have b0:W0.heap[w.heap.size]?=_:=J 0 _ rfl;have b1:=J 1 _ rfl;have b2:=J 2 _ rfl;have b3:=J 3 _ rfl;have b4:=J 4 _ rfl;have b5:=J 5 _ rfl;have b6:=J 6 _ rfl;have b7:=J 7 _ rfl;clear J c8;have a7:=zh a2;obtain ⟨H,hH⟩:=EY w.heap.size;rw [<-hH] at b0 b1 b2 b3 b4 b5 b6 b7⊢;have HH:=zh hH;have a6:Hid (zd W0 H 32 #[.int .i64 0,.int .i64 0,.int .i64 0,.slice none 0 0,.slice none 0 0,.slice none 0 0]):=b0;have V:Hid (∀(k:Nat) (x:Int),H<=k->W0.heap[k]?=some (.cells #[.int .i64 x] 3 (0,0))->zk W0 (fun b=>H<=b/\b≠H+7/\b≠H) (.slice (some ⟨k,0,none⟩) 1 1) [x]):=fun k x hk B=>⟨_,_,rfl,DR _,AE.block (cs:=#[.int .i64 x]) B ⟨hk,(fun e=>by subst e;rw [b7] at B;cases B),fun e=>by subst e;rw [b0] at B;cases B⟩ rfl⟩
 have a1:Hid (Bo W0 (fun b=>H<=b/\b≠H+7/\b≠H) (.slice (some ⟨H+1,0,none⟩) 9 9) (List.replicate 9 false)):=⟨_,_,rfl,DR _,AE.block (cs:=#[.bool false,.bool false,.bool false,.bool false,.bool false,.bool false,.bool false,.bool false,.bool false]) b1 (by omega) rfl⟩
 have a0:Hid (Bz W0 (fun b=>H<=b/\b≠H+7/\b≠H) (.slice (some ⟨H+6,0,none⟩) 2 2) [([0],[2]),([a],[b])]):=by
  refine ⟨[.string ⟨#[97]⟩,.slice (some ⟨H+2,0,none⟩) 1 1,.slice (some ⟨H+3,0,none⟩) 1 1,.string ⟨#[98]⟩,.slice (some ⟨H+4,0,none⟩) 1 1,.slice (some ⟨H+5,0,none⟩) 1 1],⟨_,_,rfl,DR _,rfl,fun _=>⟨H+6,0,rfl,by omega,fun j u hu=>by rw [Nat.zero_add];exact zd.cell (cs:=#[.string ⟨#[97]⟩,.slice (some ⟨H+2,0,none⟩) 1 1,.slice (some ⟨H+3,0,none⟩) 1 1,.string ⟨#[98]⟩,.slice (some ⟨H+4,0,none⟩) 1 1,.slice (some ⟨H+5,0,none⟩) 1 1]) b6 (by simpa using hu)⟩⟩,fun i x I=>?_⟩
  match i,I with
  | 0,I=>
   have:(([0],[2]):List Int×List Int)=x:=by simpa using I
   subst this;exact ⟨_,_,_,rfl,rfl,rfl,V.out _ _ (by omega) b2,V.out _ _ (by omega) b3⟩
  | 1,I=>
   have:(([a],[b]):List Int×List Int)=x:=by simpa using I
   subst this;exact ⟨_,_,_,rfl,rfl,rfl,V.out _ _ (by omega) b4,V.out _ _ (by omega) b5⟩
 have U:Hid (FI W0 (H+7) (.slice (some ⟨H+1,0,none⟩) 9 9) (.slice (some ⟨H+6,0,none⟩) 2 2) W0 0 (.slice none 0 0) []):=⟨zp.refl _ _,b7,World.ownsRow_nil _ _ _ _,fun j hj=>by omega⟩;have O:Hid (H+7<W0.heap.size):=zc b7;clear b0 b1 b2 b3 b4 b5 b6 b7 a2 V hH;go_loopw [6] (fun i wr=>∃(k:Nat) (vF:Value) (fs:List Value),i=.int .i64 k/\k<=2/\Hid (FI W0 (H+7) (.slice (some ⟨H+1,0,none⟩) 9 9) (.slice (some ⟨H+6,0,none⟩) 2 2) wr k vF fs)) (fun i _=>2 - (intOf i).toNat)
 case atStart=>exact ⟨0,_,_,rfl,Ef _,U.out⟩
 clear U
 case round=>
  obtain ⟨k,vF,fs,rfl,hk,E⟩:=hrel;obtain ⟨wk,rfl⟩:∃wk:World,wk=wr:=⟨_,rfl⟩;have m0:=E.out.mz.cell (k:=0) rfl;have m1:=E.out.mz.cell (k:=1) rfl;have m2:=E.out.mz.cell (k:=2) rfl;have m3:=E.out.mz.cell (k:=3) rfl;have m4:=E.out.mz.cell (k:=4) rfl;have m5:=E.out.mz.cell (k:=5) rfl;have e0:W0.heap.size<=wk.heap.size:=E.out.ch.size;by_cases a4:k<2
  ·have d7:(k:Int)<2:=by omega
   have a3:za wk ((wk.alloc (.cells exA 4)).alloc (.cells #[.slice (some ⟨wk.heap.size,0,none⟩) 9 9] 29)):=((za.refl _).alloc _).alloc _;have M:=zh a3;have L:Ae ((wk.alloc (.cells exA 4)).alloc (.cells #[.slice (some ⟨wk.heap.size,0,none⟩) 9 9] 29)) (fun _=>True) 1 (.slice (some ⟨wk.heap.size+1,0,none⟩) 1 1) 1 [.slice (some ⟨wk.heap.size,0,none⟩) 9 9]:=⟨_,_,rfl,DR _,AE.block (cs:=#[.slice (some ⟨wk.heap.size,0,none⟩) 9 9]) (zd.new _ _ _ (by simp)) trivial rfl⟩;have K:=zh L;clear a3 L
   go_wp2_with (at_builtin;refine By rfl _ _ _ eBools rfl W0.heap.size k 1 fs [.slice (some ⟨wk.heap.size,0,none⟩) 9 9] vF _ rfl rfl ((E.out.F.alloc _).alloc _) K.out (by simp [Value.oneCell']) (by simp;omega) (by unfold maxLen;omega) (by omega) ?_)
   intro v' w2 ho hg d4;have Q:=E.out.mid M.out hg;have a9:=zh (E.out.add M.out ho hg);have n3:=Q.cell (k:=3) rfl;have fz:=Q.frozen 3;obtain ⟨A',c',e',-,-⟩:=Ae.of_own ho;subst e';clear ho hg d4 Q K M m0 m1 m2 m3 m4 m5;go_wp2;go_roundw
   case rel=>exact ⟨k+1,_,_,by go_num,by omega,a9.out⟩
   case measure=>simp [intOf];omega
  ·obtain rfl:k=2:=by omega
   have D:Hid (zd wk H 32 #[.int .i64 0,.int .i64 0,.int .i64 0,.slice none 0 0,.slice none 0 0,.slice none 0 0]):=E.out.ch.blk a6.out (by omega);have z0:=D.out.cell (k:=0) rfl;have z1:=D.out.cell (k:=1) rfl;have z2:=D.out.cell (k:=2) rfl;have z3:=D.out.cell (k:=3) rfl;have z4:=D.out.cell (k:=4) rfl;have z5:=D.out.cell (k:=5) rfl;have fz:∀j,wk.frozen? ⟨H,j,none⟩=false:=fun j=>D.out.frozen j
   obtain ⟨Af,cf,e',-,-⟩:=Ae.of_own E.out.F;subst e'
   have b9:Hid (zt wk (fun b=>H<=b/\b≠H) (.agg #[.int .i64 3,.int .i64 3,.int .i64 1,.slice Af 2 cf,.slice (some ⟨H+1,0,none⟩) 9 9,.slice (some ⟨H+6,0,none⟩) 2 2]) (exM a b)):=by
    have hS:zK (fun b=>H<=b/\b≠H+7/\b≠H) W0 wk:=E.out.ch.same fun b B e=>B.2.1 e
    refine ⟨_,_,_,rfl,⟨fs,(Ae.of_own E.out.F).weaken (fun b B=>by have:=O.out;omega),fun i x I=>?_⟩,(a1.out.keep hS).weaken (fun b B=>⟨B.1,B.2.2⟩),(a0.out.keep hS).weaken (fun b B=>⟨B.1,B.2.2⟩)⟩
    have hi:i<2/\x=exFree:=by
     match i,I with
     | 0,I=>exact ⟨by omega,by simpa [exM] using I.symm⟩
     | 1,I=>exact ⟨by omega,by simpa [exM] using I.symm⟩
    obtain ⟨h,h1,h2,h3⟩:=E.out.fd i hi.1;rw [hi.2];exact ⟨_,h1,⟨_,_,rfl,DR _,AE.block (cs:=exA) h3 (by have:=O.out;omega) rfl⟩⟩
   have a8:Hid (Below H w wk):=by
    have h1:Below H w W0:=by (show Below _ _ _);rw [HH.out];exact a7.out
    have h2:Below H W0 wk:=E.out.ch.below (by have:=O.out;omega) (fun b B=>by omega);exact h1.trans h2
   clear E a1 a0;go_wp2;refine case_fin (P:=fun W=>bodyPost Tryz.prog Tryz.f56 _ Exit.ret _ W) (g2:=H) ?_ D.out;intro WZ G c0 hk;have y0:=G.cell (k:=0) rfl;have y1:=G.cell (k:=1) rfl;have y2:=G.cell (k:=2) rfl;have y3:=G.cell (k:=3) rfl;have y4:=G.cell (k:=4) rfl;have y5:=G.cell (k:=5) rfl;have hE:za w WZ:=by have h:=a8.out.trans c0;rw [HH.out] at h;exact h
   exact EL (v:=.agg #[.int .i64 3,.int .i64 3,.int .i64 1,.slice Af 2 cf,.slice (some ⟨H+1,0,none⟩) 9 9,.slice (some ⟨H+6,0,none⟩) 2 2]) (by simp [results,Tryz.results56,go_sem,y0,y1,y2,y3,y4,y5]) rfl ⟨_,rfl,hE,(b9.out.keep (fun b B a4=>hk b a4 B.2)).weaken fun b B=>by have:=HH.out;omega⟩
theorem pref_intss {A:Option Addr} {c N:Nat} {l:List (List Int)} (h:zR w ok (.slice A n c) l) (L:N<=n):zR w ok (.slice A N c) (l.take N):=by
 obtain ⟨vs,⟨A',c',e,M,J,K⟩,he⟩:=h;injection e with e1 e2 e3;subst e1 e2 e3;refine ⟨vs.take N,⟨A,c,by rw [EJ,Nat.min_eq_left (by omega)],by rw [EJ];omega,by simp [J],fun hp=>?_⟩,fun i x E=>?_⟩
 ·rw [EJ] at hp;obtain ⟨b,off,e,G,B⟩:=K (by omega);refine ⟨b,off,e,G,fun j u D=>B j u ?_⟩;rw [List.getElem?_take] at D
  split at D
  ·exact D
  ·cases D
 ·rw [List.getElem?_take] at E⊢
  split at E
  ·rename_i I
   rw [if_pos I];exact he i x E
  ·cases E
theorem ymade_calls {v:Value} {ls:List (List Int)} (w:World) (hm:zR w ok v ls) (b3:ls.length<=9223372036854775807) (O:∀x∈ls,x.length<=9223372036854775807):Calls Tryz.prog 19 #[v] w (MadePost w):=by
 have HM:=zh hm;have K:=zh O;obtain ⟨_,⟨A,c,rfl,hc,-⟩,-⟩:=id hm;clear hm O;obtain ⟨N,hN⟩:=EY (min ls.length 5);have HN:=zh hN;have a2:N<=ls.length:=by omega
 have b0:N<=5:=by omega
 have a7:min (ls.length:Int) 5=(N:Int):=by omega
 clear hN
 go_enter Tryz.func19,Tryz.ntmps19
 go_upto_region 1 with fail;generalize J:w.alloc (.cells #[.int .i64 0,.int .i64 0,.int .i64 0,.slice none 0 0,.slice none 0 0,.slice none 0 0] 32)=w1;have M:za w w1:=by rw [<-J];exact (za.refl w).alloc _
 have E:Hid (zd w1 w.heap.size 32 #[.int .i64 0,.int .i64 0,.int .i64 0,.slice none 0 0,.slice none 0 0,.slice none 0 0]):=by rw [<-J];exact zd.new _ _ _ rfl
 clear J;have I:=zh M;clear M
 go_wp2_with fail
 refine (made_calls w1 (pref_intss (HM.out.below I.out) a2) (by rw [EJ];omega) (fun x hx=>K.out x (List.mem_of_mem_take hx))).mono ?_;rintro e w2 ⟨v',z,rfl,G,hz,Q⟩;obtain ⟨Af,cf,Au,cu,At,ct,rfl,-,-,-⟩:=hz.parts;have HZ:=zh hz;have a0:=zh Q;have V:Hid (Below w.heap.size w w2/\w.heap.size<w2.heap.size):=⟨(I.out.trans G),Et (zc E.out) G.size⟩;have B:=E.out.ext G;have L:Hid (w.heap.size<w1.heap.size):=zc E.out;clear E I HM K HN G hz Q;have z0:=B.cell (k:=0) rfl;have z1:=B.cell (k:=1) rfl;have z2:=B.cell (k:=2) rfl;have z3:=B.cell (k:=3) rfl;have z4:=B.cell (k:=4) rfl;have z5:=B.cell (k:=5) rfl;have fz:∀j,w2.frozen? ⟨w.heap.size,j,none⟩=false:=fun j=>B.frozen j
 have U:=zh B;clear B;go_wp2;refine case_fin (P:=fun W=>bodyPost Tryz.prog Tryz.f19 _ Exit.ret _ W) (g2:=w.heap.size) ?_ U.out;intro WZ D a1 hk;have y0:=D.cell (k:=0) rfl;have y1:=D.cell (k:=1) rfl;have y2:=D.cell (k:=2) rfl;have y3:=D.cell (k:=3) rfl;have y4:=D.cell (k:=4) rfl;have y5:=D.cell (k:=5) rfl;refine EL (v:=.agg #[.int .i64 z.w,.int .i64 z.h,.int .i64 z.l,.slice Af z.free.length cf,.slice Au z.up.length cu,.slice At z.tasks.length ct]) (by simp [results,Tryz.results19,go_sem,y0,y1,y2,y3,y4,y5]) rfl ⟨_,z,rfl,V.out.1.trans a1,?_,a0.out⟩;exact (HZ.out.keep (fun b hb a3=>hk b a3 (by have:=L.out;omega))).weaken fun b hb=>by have:=L.out;omega
end
section
open Go.RowKit Go.Shelf
attribute [local go_sem ↓] Go.wp_at_zero Go.wp_at_succ
def Be (g:Rd->PT×Rd):Nat->Rd->List PT->List PT×Rd
 | 0,s,ks=>(ks,s)
 | n+1,s,ks=>if s.2=true then (ks,s) else Be g n (g s).2 (ks++[(g s).1])
def rdF:Nat->Rd->PT×Rd
 | 0,_=>(.zero,([],true))
 | f+1,s=>(.node (zT s).1 (Am (zT s).2).1 (Be (rdF f) (zT (Am (zT s).2).2).1.toNat (zT (Am (zT s).2).2).2 []).1,(Be (rdF f) (zT (Am (zT s).2).2).1.toNat (zT (Am (zT s).2).2).2 []).2)
theorem elsF_len:∀(f:Nat) (s:Rd) (l:List Int),(Ca f s l).2.1.length<=s.1.length
 | 0,s,l=>DR _
 | f+1,s,l=>by
  unfold Ca
  split
  ·exact DR _
  ·exact DT (elsF_len f _ _) (CL s).1
theorem intsF_len (s:Rd):(Am s).2.1.length<=s.1.length:=by
 unfold Am
 split
 ·simp
 ·have h:=elsF_len s.1.tail.length (s.1.tail,false) [];unfold intsE
  split
  ·simp
  ·simp only [List.length_tail] at h⊢;omega
def lv (s:Rd):Nat:=if s.2=true then 0 else s.1.length+1
theorem lv_ok (h:s.2=false):lv s=s.1.length+1:=by unfold lv;rw [h];rfl
theorem kidsF_lv {g:Rd->PT×Rd} (B:∀s,s.2=false->lv (g s).2<=lv s):∀(n:Nat) (s:Rd) (ks:List PT),lv (Be g n s ks).2<=lv s
 | 0,s,ks=>DR _
 | n+1,s,ks=>by
  unfold Be
  split
  ·exact DR _
  ·rename_i h
   exact DT (kidsF_lv B n _ _) (B s (by simpa using h))
theorem lv_dec {t:Rd} (h:t.2=false->t.1.length<s.1.length) (D:s.2=false):lv t<lv s:=by
 rw [lv_ok D];unfold lv
 split
 ·omega
 ·rename_i B
  have:=h (by simpa using B);omega
theorem three_len (s:Rd):(zT (Am (zT s).2).2).2.1.length<=s.1.length/\((zT (Am (zT s).2).2).2.2=false->(zT (Am (zT s).2).2).2.1.length<s.1.length):=by
 have h1:=CL s;have h2:=intsF_len (zT s).2;have h3:=CL (Am (zT s).2).2;exact ⟨by omega,fun h=>by have:=h3.2 h;omega⟩
theorem rdF_lv:∀(f:Nat) (s:Rd),s.2=false->lv (rdF f s).2<lv s
 | 0,s,B=>by rw [lv_ok B];exact Nat.zero_lt_succ _
 | f+1,s,B=>by
  show lv (Be (rdF f) _ _ []).2<_;exact Nat.lt_of_le_of_lt (kidsF_lv (fun s h=>Nat.le_of_lt (rdF_lv f s h)) _ _ _) (lv_dec (three_len s).2 B)
theorem kidsF_stop {g:Rd->PT×Rd} {ks:List PT} (h:n=0\/s.2=true):Be g n s ks=(ks,s):=by
 cases n with
 | zero=>rfl
 | succ n=>
  unfold Be;rcases h with h | h
  ·cases h
  ·rw [if_pos h]
theorem kidsF_step {g:Rd->PT×Rd} {j:Nat} {ks:List PT} (h:s.2=false) (D:j<n):Be g (n - j) s ks=Be g (n - (j+1)) (g s).2 (ks++[(g s).1]):=by
 obtain ⟨k,B⟩:∃k,n - j=k+1:=⟨n - j - 1,by omega⟩;rw [B,show n - (j+1)=k by omega];show (if s.2=true then _ else _)=_;rw [if_neg (by rw [h];simp)]
theorem var_new (h:zN w) {b:Nat} (B:w.heap.size<=b):¬ isVar b:=by
 rintro ⟨n,E,D⟩
 have f:∀cs,w.var? Tryz.prog n=some cs->False:=fun cs h=>by
  unfold World.var? at h;rw [D,Option.bind_some,Array.getElem?_eq_none B] at h;cases h
 rcases E with rfl | rfl | rfl
 ·exact f _ h.tab
 ·obtain ⟨tp,p,h⟩:=h.syn;exact f _ h
 ·obtain ⟨tp,p,h⟩:=h.rng;exact f _ h
theorem read_end (D:a.tmps[2]?=some (.pointer (some ⟨gp,0,none⟩))) (E:a.defers=[]) (B:zd W gp 41 #[x,y,z]) (h:R (.returned (.agg #[x,y,z])) W):bodyPost Tryz.prog Tryz.f113 R Exit.ret a W:=by
 have c0:=B.cell (k:=0) rfl;have c1:=B.cell (k:=1) rfl;have c2:=B.cell (k:=2) rfl;have e:a.tmps.getD 2 undef=.pointer (some ⟨gp,0,none⟩):=by rw [Array.getD_eq_getD_getElem?,D];rfl
 exact EL (v:=.agg #[x,y,z]) (by simp [results,Tryz.results113,go_sem,D,e,c0,c1,c2]) E h
theorem read_calls:∀(f:Nat) {r:Nat} {s:Rd} (w:World),zN w->AZ w r s->s.1.length<f->f<=1000000000->
  Calls Tryz.prog 113 #[.pointer (some ⟨r,0,none⟩)] w fun e w'=>∃v,e=.returned v/\zp (·=r) w w'/\AZ w' r (rdF f s).2/\zM w' (fun b=>w.heap.size<=b) v (rdF f s).1
 | 0,r,s,w,_,_,h,_=>by omega
 | f+1,r,s,w,hv,hr,hf,n8=>by
  have IH:Hid (∀(r:Nat) (s:Rd) (w:World),zN w->AZ w r s->s.1.length<f->Calls Tryz.prog 113 #[.pointer (some ⟨r,0,none⟩)] w fun e w'=>∃v,e=.returned v/\zp (·=r) w w'/\AZ w' r (rdF f s).2/\zM w' (fun b=>w.heap.size<=b) v (rdF f s).1):=fun r s w a b c=>read_calls f w a b c (by omega)
  have HV:=zh hv;have HR:=zh hr;have o1:=zc hr;obtain ⟨t,ht⟩:=EY (zT s);obtain ⟨u,hu⟩:=EY (Am t.2);obtain ⟨n,hn⟩:=EY (zT u.2);obtain ⟨G,hG⟩:=EY (rdF f);obtain ⟨N,hN⟩:=EY n.1.toNat;have HF:Hid (rdF (f+1) s=(.node t.1 u.1 (Be G N n.2 []).1,(Be G N n.2 []).2)):=by (show _=_);rw [hN,hn,hu,ht,hG];rfl
  have e9:=CL s;have l7:=intsF_len t.2;have i4:=CL u.2;rw [<-ht] at e9;rw [<-hu] at l7;rw [<-hn] at i4;have HT:Hid (∀w,zN w->AZ w r s->Calls Tryz.prog 173 #[.pointer (some ⟨r,0,none⟩)] w fun e w'=>e=.returned (.int .i64 t.1)/\zp (·=r) w w'/\AZ w' r t.2):=fun w a b=>by rw [ht];exact rInt_calls w a b (by omega)
  have HU:Hid (∀w,zN w->AZ w r t.2->Calls Tryz.prog 174 #[.pointer (some ⟨r,0,none⟩)] w fun e w'=>∃v,e=.returned v/\zp (·=r) w w'/\AZ w' r u.2/\zB w' w.heap.size v u.1):=fun w a b=>by rw [hu];exact rInts_calls w a b (by omega)
  have j7:Hid (∀w,zN w->AZ w r u.2->Calls Tryz.prog 173 #[.pointer (some ⟨r,0,none⟩)] w fun e w'=>e=.returned (.int .i64 n.1)/\zp (·=r) w w'/\AZ w' r n.2):=fun w a b=>by rw [hn];exact rInt_calls w a b (by omega)
  have m8:Hid (I64 n.1):=by (show I64 n.1);rw [hn];exact intF_bound _
  have j6:Hid (n.2.1.length<=1000000000/\(n.2.2=false->n.2.1.length<f)):=⟨by omega,fun h=>by have:=i4.2 h;omega⟩;have m5:Hid (∀(s:Rd),s.2=false->lv (G s).2<lv s):=by (show ∀s,_);rw [hG];exact rdF_lv f
  rw [<-hG] at IH;have g5:=zh hN;rw [HF.out];clear hv hr hf n8 ht hu hn hG e9 l7 i4 hN HF
  go_enter Tryz.func113,Tryz.ntmps113
  go_upto_region 1 with fail;have c6:Hid (zd (w.alloc (.cells #[.int .i64 0,.slice none 0 0,.slice none 0 0] 41)) w.heap.size 41 #[.int .i64 0,.slice none 0 0,.slice none 0 0]):=zd.new _ _ _ rfl;have c8:Hid (za w (w.alloc (.cells #[.int .i64 0,.slice none 0 0,.slice none 0 0] 41))):=(za.refl w).alloc _;generalize w.alloc _=w1 at c6 c8⊢;obtain ⟨gp,i3⟩:∃g,g=w.heap.size:=⟨_,rfl⟩;rw [<-i3] at c6⊢;have a8:=zh i3;have E:Hid (r<gp):=by (show r<gp);omega
  clear i3 o1
  go_wp2_with fail
  refine (HT.out w1 (HV.out.ext c8.out) (HR.out.ext c8.out)).mono ?_;rintro e w2 ⟨rfl,c9,e7⟩;have a2:=zh c9;have n2:=zh e7;have k5:Hid (zN w2):=BU (HV.out.ext c8.out) c9 (var_ne HV.out HR.out);clear c9 e7
  go_wp2_with fail
  refine (HU.out w2 k5.out n2.out).mono ?_;rintro e w3 ⟨vs,rfl,f6,l3,h9⟩;obtain ⟨As,cs,rfl,-⟩:=AA h9;have d8:Hid (zd w3 gp 41 #[.int .i64 0,.slice none 0 0,.slice none 0 0]):=(a2.out.tr f6).blk c6.out (by have:=E.out;omega);obtain ⟨ws,f7⟩:∃W,W=(w3.setCell ⟨gp,0,none⟩ (.int .i64 t.1)).setCell ⟨gp,1,none⟩ (.slice As u.1.length cs):=⟨_,rfl⟩;have e0:Hid (zp (·=gp) w3 ws):=by (show zp _ _ _);rw [f7];exact ((zp.refl (fun b=>b=gp) _).set gp 0 _ rfl).set gp 1 _ rfl
  have i9:Hid (zd ws gp 41 #[.int .i64 t.1,.slice As u.1.length cs,.slice none 0 0]):=by (show zd _ _ _ _);rw [f7];exact (d8.out.set (k:=0) _).set (k:=1) _
  have k4:Hid (AZ ws r u.2):=e0.out.blk l3 (by have:=E.out;omega);have j1:Hid (zk ws (fun b=>gp<b) (.slice As u.1.length cs) u.1):=((Ae.of_own h9).keep (e0.out.same (fun b hb e=>by have h1:=a2.out.size;have h2:=c8.out.size;have h3:=a8.out;have h4:=zc c6.out;omega))).weaken (fun b hb=>by have h1:=a2.out.size;have h4:=zc c6.out;omega);have h8:Hid (zN ws):=BU (BU k5.out f6 (by rintro g rfl;exact var_ne HV.out HR.out g rfl)) e0.out (by rintro g rfl;exact var_new HV.out (by have:=a8.out;omega));have a0:Hid (zp (fun b=>b=r\/b=gp) w1 ws):=((a2.out.tr f6).wide (fun _ h=>.inl h)).tr (e0.out.wide (fun _ h=>.inr h));have b0:=d8.out.cell (k:=0) rfl;have b1:=d8.out.cell (k:=1) rfl;have fz:∀k,w3.frozen? ⟨gp,k,none⟩=false:=fun k=>d8.out.frozen k
  clear f6 l3 h9 a2 e0
  go_wp2_with fail
  rw [<-f7];clear f7 b0 b1 fz d8;refine (j7.out ws h8.out k4.out).mono ?_;rintro e w6 ⟨rfl,e6,l4⟩;have m4:Hid (zp (fun b=>b=r\/b=gp) w1 w6):=a0.out.tr (e6.wide (fun _ h=>.inl h));have i8:Hid (zd w6 gp 41 #[.int .i64 t.1,.slice As u.1.length cs,.slice none 0 0]):=e6.blk i9.out (by have:=E.out;omega);have m6:Hid (zk w6 (fun b=>gp<b) (.slice As u.1.length cs) u.1):=j1.out.keep (e6.same (fun b hb e=>by have:=E.out;omega));have n4:Hid (zN w6):=BU h8.out e6 (by rintro g rfl;exact var_ne HV.out HR.out g rfl);have n3:=zh l4;have J:Hid (gp<w6.heap.size):=zc i8.out;clear e6 l4 i9 j1 h8 k4 HT HU j7 a0 c6
  go_wp2_with fail
  go_loopw [4] (fun v wr=>∃(j:Nat) (acc:List PT) (vk:Value) (cs':List Value) (s':Rd),v=.int .i64 j/\j<=N/\Hid (Be G N n.2 []=Be G (N - j) s' acc)/\Hid (zp (fun b=>b=r\/b=gp) w6 wr)/\Hid (AZ wr r s')/\Hid (zd wr gp 41 #[.int .i64 t.1,.slice As u.1.length cs,vk])/\Hid (AG wr w6.heap.size vk acc cs')/\Hid (acc.length+lv s'<=n.2.1.length+1)/\Hid (s'.2=false->n.2.2=false/\lv s'<=lv n.2)) (fun v _=>N - (intOf v).toNat)
  case atStart=>exact ⟨0,[],_,[],n.2,rfl,Ef _,rfl,zp.refl _ _,n3.out,i8.out,AG.nil _ _,by (show _<=_);unfold lv;split <;> simp,fun h=>⟨h,DR _⟩⟩
  case round=>
   obtain ⟨j,acc,vk,cs',s',rfl,hj,h7,B,e5,Q,I,h6,j3⟩:=hrel;obtain ⟨wq,rfl⟩:∃W:World,W=wr:=⟨_,rfl⟩;by_cases a1:N - j=0\/s'.2=true
   ·have f8:Hid (Be G N n.2 []=(acc,s')):=h7.out.trans (kidsF_stop a1);have j0:Hid (zk wq (fun b=>gp<b/\b<w6.heap.size) (.slice As u.1.length cs) u.1):=m6.out.bound.keep (B.out.same (fun b hb e=>by have:=E.out;omega));obtain ⟨Ak,ck,o2,-,-⟩:=Ae.of_own I.out.own;subst o2;clear h7;have b0:=Q.out.cell (k:=0) rfl;have b1:=Q.out.cell (k:=1) rfl;have b2:=Q.out.cell (k:=2) rfl;have fz:∀k,wq.frozen? ⟨gp,k,none⟩=false:=fun k=>Q.out.frozen k
    have L:=CP wq e5.out
    have V:Hid (zd (((wq.setCell ⟨gp,0,none⟩ (.int .i64 t.1)).setCell ⟨gp,1,none⟩ (.slice As u.1.length cs)).setCell ⟨gp,2,none⟩ (.slice Ak acc.length ck)) gp 41 #[.int .i64 t.1,.slice As u.1.length cs,.slice Ak acc.length ck]/\zp (·=r) w (((wq.setCell ⟨gp,0,none⟩ (.int .i64 t.1)).setCell ⟨gp,1,none⟩ (.slice As u.1.length cs)).setCell ⟨gp,2,none⟩ (.slice Ak acc.length ck))/\AZ (((wq.setCell ⟨gp,0,none⟩ (.int .i64 t.1)).setCell ⟨gp,1,none⟩ (.slice As u.1.length cs)).setCell ⟨gp,2,none⟩ (.slice Ak acc.length ck)) r (Be G N n.2 []).2/\zM (((wq.setCell ⟨gp,0,none⟩ (.int .i64 t.1)).setCell ⟨gp,1,none⟩ (.slice As u.1.length cs)).setCell ⟨gp,2,none⟩ (.slice Ak acc.length ck)) (fun b=>w.heap.size<=b) (.agg #[.int .i64 t.1,.slice As u.1.length cs,.slice Ak acc.length ck]) (.node t.1 u.1 (Be G N n.2 []).1)):=by
     (show _/\_/\_/\_)
     rw [f8.out];have hS:zp (fun b=>b=gp) wq (((wq.setCell ⟨gp,0,none⟩ (.int .i64 t.1)).setCell ⟨gp,1,none⟩ (.slice As u.1.length cs)).setCell ⟨gp,2,none⟩ (.slice Ak acc.length ck)):=(((zp.refl (fun b=>b=gp) _).set gp 0 _ rfl).set gp 1 _ rfl).set gp 2 _ rfl;have hW:zp (fun b=>b=r\/b=gp) w (((wq.setCell ⟨gp,0,none⟩ (.int .i64 t.1)).setCell ⟨gp,1,none⟩ (.slice As u.1.length cs)).setCell ⟨gp,2,none⟩ (.slice Ak acc.length ck)):=((Cb c8.out).tr m4.out).tr (B.out.tr (hS.wide (fun _ h=>.inr h)));refine ⟨((Q.out.set (k:=0) _).set (k:=1) _).set (k:=2) _,(zp.refl _ w).trans hW (fun k hk h=>h.elim id (fun e=>by have:=a8.out;omega)),hS.blk e5.out (by have:=E.out;omega),?_⟩;refine .mk (cs:=cs') ((j0.out.keep (hS.same (fun b hb e=>by omega))).weaken (fun b hb=>by have:=a8.out;omega)) ((Ae.of_own (I.out.chg hS (fun b hb e=>by have:=J.out;omega)).own).weaken (fun b hb=>by have:=a8.out;have:=J.out;omega)) (fun i hi=>((I.out.chg hS (fun b hb e=>by have:=J.out;omega)).each i hi).keepW (fun _ _ _=>rfl) (fun b hb=>by have:=a8.out;have:=J.out;have:=hb.1;omega))
    clear I j0 f8 B h6 j3;rcases a1 with h0 | hb
    ·have d4:¬ ((j:Int)<n.1):=by have:=g5.out;omega
     have i2:decide ((j:Int)<n.1)=false:=DV d4;clear L
     go_wp2_with fail
     exact read_end rfl rfl V.out.1 ⟨_,rfl,V.out.2⟩
    ·by_cases d4:(j:Int)<n.1
     ·have i2:decide ((j:Int)<n.1)=true:=DU d4;rw [hb] at L;have b4:=zh L;clear L
      go_wp2_with fail
      refine b4.out.mono ?_;rintro e w7 ⟨rfl,rfl⟩
      go_wp2_with fail
      exact read_end rfl rfl V.out.1 ⟨_,rfl,V.out.2⟩
     ·have i2:decide ((j:Int)<n.1)=false:=DV d4;clear L
      go_wp2_with fail
      exact read_end rfl rfl V.out.1 ⟨_,rfl,V.out.2⟩
   ·have n9:j<N:=by omega
    have d4:(j:Int)<n.1:=by have:=g5.out;omega
    have i2:decide ((j:Int)<n.1)=true:=DU d4
    have i6:s'.2=false:=by
     cases h:s'.2 with
     | false=>rfl
     | true=>exact absurd (.inr h) a1
    have L:=CP wq e5.out;rw [i6] at L;have b4:=zh L;have f3:=zh i6;have o6:(j:Int)+1<=9223372036854775807:=by have:=m8.out.2;omega
    clear L a1 i6
    go_wp2_with fail
    refine b4.out.mono ?_;rintro e w7 ⟨rfl,rfl⟩;clear b4;go_upto_region 6 with fail;have e1:Hid (Be G N n.2 []=Be G (N - (j+1)) (G s').2 (acc++[(G s').1])):=h7.out.trans (kidsF_step f3.out n9);have hd:=m5.out s' f3.out;have l9:=lv_ok f3.out;have b9:=j3.out f3.out;have l8:=lv_ok b9.1;have d7:Hid ((acc++[(G s').1]).length+lv (G s').2<=n.2.1.length+1):=by (show _<=_);have:=h6.out;rw [DZ,Er];omega
    have e2:Hid ((G s').2.2=false->n.2.2=false/\lv (G s').2<=lv n.2):=fun _=>⟨b9.1,by omega⟩
    have g1:Hid (s'.1.length<f):=by (show _<_);have:=j6.out.2 b9.1;omega
    have c0:Hid (acc.length<=1000000001):=by (show _<=_);have:=h6.out;have:=j6.out.1;omega
    have k6:Hid (zN wq):=BU n4.out B.out (by
     rintro g (rfl | rfl)
     ·exact var_ne HV.out HR.out g rfl
     ·exact var_new HV.out (by have:=a8.out;omega))
    clear hd l9 b9 l8;refine Eh (S:=(fun W=>zp (fun b=>b=r\/b=gp) w6 W)) zI (B.out.tr (Cb (za.refl wq).drew)) fun zH=>?_;have U:Hid (za wq wq.drew):=(za.refl wq).drew;generalize wq.drew=wd at zH U⊢;refine zg 0 zH ?_;refine zg 2 zH ?_;simp only [zb,DN];refine rdA [1,3] ?_;refine Es rfl (fun K D=>?_) ?_
    ·have cg1:wd.cell? ⟨gp,2,none⟩=some vk:=zp.cellk (Cb (X:=fun b=>b=r) U.out) (Q.out.cell (k:=2) rfl) (by have:=E.out;show ¬ (gp=r);omega);go_simp;clear cg1;refine EZ D (B.out.tr ((Cb (X:=fun b=>b=r) U.out).wide (fun _ h=>.inl h))) fun zH=>?_;clear D K;try simp only [zb,DN]
     refine AD 3 fun K D=>?_;go_simp;go_at_call 113;refine (IH.out r s' wd (k6.out.ext U.out) (e5.out.ext U.out) g1.out).mono ?_;rintro e w2 ⟨v2,rfl,c9,e7,i0⟩;obtain ⟨As2,cs2,Ak2,ck2,rfl,-⟩:=i0.form;have a2:Hid (zp (fun b=>b=r) wq w2):=(Cb U.out).tr c9;have m9:=zh i0;have n5:=zh e7;have g4:Hid (wq.heap.size<=wd.heap.size):=U.out.size;clear c9 i0 e7;refine EZ D (B.out.tr ((a2.out).wide (fun _ h=>.inl h))) fun zH=>?_;clear D K;try simp only [zb,DN]
     refine AD 4 fun K D=>?_;go_simp;have f4:=zd.new w2 #[.int .i64 (G s').1.task,.slice As2 (G s').1.side.length cs2,.slice Ak2 (G s').1.kids.length ck2] 41 (g:=w2.heap.size) rfl;have hA3:za w2 (w2.alloc (.cells #[.int .i64 (G s').1.task,.slice As2 (G s').1.side.length cs2,.slice Ak2 (G s').1.kids.length ck2] 41)):=(za.refl w2).alloc _;generalize w2.alloc _=w3 at f4 hA3⊢;generalize w2.heap.size=g3 at f4⊢;have m2:=zh f4;have a0:Hid (zp (fun b=>b=r) wq w3):=(a2.out).tr (Cb hA3);have n0:=zh (m9.out.ext hA3);have k9:=zh (n5.out.ext hA3);clear f4 hA3;refine EZ D (B.out.tr ((a0.out).wide (fun _ h=>.inl h))) fun zH=>?_;clear D K;try simp only [zb,DN]
     refine AD 5 fun K D=>?_;have j2:Hid (AG w3 w6.heap.size vk acc cs'):=I.out.chg (a0.out) (fun b hb e=>by have:=J.out;have:=E.out;omega);refine zW (ok:=fun _=>True) (by rfl) w3 _ _ CW (by rfl) w6.heap.size acc.length 1 cs' _ vk _ (by rfl) (by rfl) j2.out.own (Cd m2.out) (fun u hu=>by simp at hu;rcases hu with rfl | rfl | rfl <;> rfl) (by have h1:=B.out.size;have h2:=zp.size (a0.out);omega) (by have:=c0.out;unfold maxLen;omega) (by have:=c0.out;omega) ?_;intro v4 w4 i5 e8 m1;have m7:=zh (show AG w4 w6.heap.size _ (acc++[(G s').1]) (cs'++[.int .i64 (G s').1.task,.slice As2 (G s').1.side.length cs2,.slice Ak2 (G s').1.kids.length ck2]) from j2.out.app (lo:=wd.heap.size) n0.out (fun k hk=>by have h1:=I.out.lt hk;have h2:=g4.out;omega) (by have h1:=B.out.size;have h2:=g4.out;omega) i5 e8 m1);have f2:Hid (zp (fun b=>b=r\/b=gp) w6 w4):=zp.grown (B.out.tr ((a0.out).wide (fun _ h=>.inl h))) e8 (fun k hk e9=>by have h1:=I.out.lt hk;omega);obtain ⟨A4,c4,e4,-,-⟩:=Ae.of_own i5;subst e4;have e3:Hid (zd w4 gp 41 #[.int .i64 t.1,.slice As u.1.length cs,vk]):=(e8.block gp (by have h1:=J.out;have h2:=B.out.size;have h3:=zp.size (a0.out);omega) (fun e=>by have h1:=I.out.lt e.symm;have h2:=J.out;omega)).trans (zp.blk (a0.out) Q.out (by have:=E.out;omega));have n6:Hid (AZ w4 r (G s').2):=(e8.block r (zc k9.out) (fun e=>by have h1:=I.out.lt e.symm;have h2:=J.out;have h3:=E.out;omega)).trans k9.out;clear i5 e8 m1;refine EZ D (f2.out) fun zH=>?_;clear D K;try simp only [zb,DN]
     refine AD 6 fun K D=>?_;go_simp;refine EZ D (f2.out) fun zH=>?_;clear D K;try simp only [zb,DN]
     refine AD 7 fun K D=>?_;have cg6:=e3.out.cell (k:=2) rfl;have fg6:=e3.out.frozen 2;go_simp;clear cg6 fg6;refine EZ D (zp.set (f2.out) gp 2 (.slice A4 (acc.length+1) c4) (.inr rfl)) fun zH=>?_;clear D K;try simp only [zb,DN]
     refine Ev (by kernel_rfl) ?_ _;have a4:Hid (zp (fun b=>b=r\/b=gp) w6 (w4.setCell ⟨gp,2,none⟩ (.slice A4 (acc.length+1) c4))):=zp.set (f2.out) gp 2 (.slice A4 (acc.length+1) c4) (.inr rfl);have O:Hid (zd (w4.setCell ⟨gp,2,none⟩ (.slice A4 (acc.length+1) c4)) gp 41 #[.int .i64 t.1,.slice As u.1.length cs,(.slice A4 (acc.length+1) c4)]):=e3.out.set (k:=2) (.slice A4 (acc.length+1) c4);have a5:Hid (AZ (w4.setCell ⟨gp,2,none⟩ (.slice A4 (acc.length+1) c4)) r (G s').2):=zd.setOther n6.out (a:=⟨gp,2,none⟩) (by have:=E.out;show r≠gp;omega) (.slice A4 (acc.length+1) c4);have a3:=zh (m7.out.chg (zp.set (X:=fun b=>b=gp) (zp.refl _ w4) gp 2 (.slice A4 (acc.length+1) c4) rfl) (fun b hb e=>by have:=J.out;omega));generalize w4.setCell ⟨gp,2,none⟩ (.slice A4 (acc.length+1) c4)=wz at a4 O a5 a3⊢;go_wp2;go_roundw
     case rel=>exact ⟨j+1,acc++[(G s').1],_,_,(G s').2,by go_num,by omega,e1.out,a4.out,a5.out,O.out,a3.out,d7.out,e2.out⟩
     case measure=>simp [intOf];omega
    refine Es rfl (fun K D=>?_) .nil;go_simp;go_at_call 113;refine (IH.out r s' wd (k6.out.ext U.out) (e5.out.ext U.out) g1.out).mono ?_;rintro e w7 ⟨v7,rfl,l2,l5,i1⟩;obtain ⟨As7,cs7,Ak7,ck7,rfl,-⟩:=i1.form;have d9:Hid (zp (fun b=>b=r) wq w7):=(Cb U.out).tr l2;have j9:=zh i1;have l0:=zh l5;have b7:Hid (wq.heap.size<=wd.heap.size):=U.out.size;clear l2 i1 l5;refine EZ D (B.out.tr ((d9.out).wide (fun _ h=>.inl h))) fun zH=>?_;clear D K;try simp only [zb,DN]
    refine rdA [1,4] ?_;refine Es rfl (fun K D=>?_) ?_
    ·have cg8:w7.cell? ⟨gp,2,none⟩=some vk:=zp.cellk (d9.out) (Q.out.cell (k:=2) rfl) (by have:=E.out;show ¬ (gp=r);omega);go_simp;clear cg8;refine EZ D (B.out.tr ((d9.out).wide (fun _ h=>.inl h))) fun zH=>?_;clear D K;try simp only [zb,DN]
     refine AD 4 fun K D=>?_;go_simp;have f5:=zd.new w7 #[.int .i64 (G s').1.task,.slice As7 (G s').1.side.length cs7,.slice Ak7 (G s').1.kids.length ck7] 41 (g:=w7.heap.size) rfl;have hA9:za w7 (w7.alloc (.cells #[.int .i64 (G s').1.task,.slice As7 (G s').1.side.length cs7,.slice Ak7 (G s').1.kids.length ck7] 41)):=(za.refl w7).alloc _;generalize w7.alloc _=w9 at f5 hA9⊢;generalize w7.heap.size=g9 at f5⊢;have m3:=zh f5;have c7:Hid (zp (fun b=>b=r) wq w9):=(d9.out).tr (Cb hA9);have n1:=zh (j9.out.ext hA9);have l1:=zh (l0.out.ext hA9);clear f5 hA9;refine EZ D (B.out.tr ((c7.out).wide (fun _ h=>.inl h))) fun zH=>?_;clear D K;try simp only [zb,DN]
     refine AD 5 fun K D=>?_;have f9:Hid (AG w9 w6.heap.size vk acc cs'):=I.out.chg (c7.out) (fun b hb e=>by have:=J.out;have:=E.out;omega);refine zW (ok:=fun _=>True) (by rfl) w9 _ _ CW (by rfl) w6.heap.size acc.length 1 cs' _ vk _ (by rfl) (by rfl) f9.out.own (Cd m3.out) (fun u hu=>by simp at hu;rcases hu with rfl | rfl | rfl <;> rfl) (by have h1:=B.out.size;have h2:=zp.size (c7.out);omega) (by have:=c0.out;unfold maxLen;omega) (by have:=c0.out;omega) ?_;intro v10 w10 f0 a6 g8;have j4:=zh (show AG w10 w6.heap.size _ (acc++[(G s').1]) (cs'++[.int .i64 (G s').1.task,.slice As7 (G s').1.side.length cs7,.slice Ak7 (G s').1.kids.length ck7]) from f9.out.app (lo:=wd.heap.size) n1.out (fun k hk=>by have h1:=I.out.lt hk;have h2:=b7.out;omega) (by have h1:=B.out.size;have h2:=b7.out;omega) f0 a6 g8);have b5:Hid (zp (fun b=>b=r\/b=gp) w6 w10):=zp.grown (B.out.tr ((c7.out).wide (fun _ h=>.inl h))) a6 (fun k hk e9=>by have h1:=I.out.lt hk;omega);obtain ⟨A10,c10,e10,-,-⟩:=Ae.of_own f0;subst e10;have a9:Hid (zd w10 gp 41 #[.int .i64 t.1,.slice As u.1.length cs,vk]):=(a6.block gp (by have h1:=J.out;have h2:=B.out.size;have h3:=zp.size (c7.out);omega) (fun e=>by have h1:=I.out.lt e.symm;have h2:=J.out;omega)).trans (zp.blk (c7.out) Q.out (by have:=E.out;omega));have k7:Hid (AZ w10 r (G s').2):=(a6.block r (zc l1.out) (fun e=>by have h1:=I.out.lt e.symm;have h2:=J.out;have h3:=E.out;omega)).trans l1.out;clear f0 a6 g8;refine EZ D (b5.out) fun zH=>?_;clear D K;try simp only [zb,DN]
     refine AD 6 fun K D=>?_;go_simp;refine EZ D (b5.out) fun zH=>?_;clear D K;try simp only [zb,DN]
     refine AD 7 fun K D=>?_;have cg12:=a9.out.cell (k:=2) rfl;have fg12:=a9.out.frozen 2;go_simp;clear cg12 fg12;refine EZ D (zp.set (b5.out) gp 2 (.slice A10 (acc.length+1) c10) (.inr rfl)) fun zH=>?_;clear D K;try simp only [zb,DN]
     refine Ev (by kernel_rfl) ?_ _;have a4:Hid (zp (fun b=>b=r\/b=gp) w6 (w10.setCell ⟨gp,2,none⟩ (.slice A10 (acc.length+1) c10))):=zp.set (b5.out) gp 2 (.slice A10 (acc.length+1) c10) (.inr rfl);have O:Hid (zd (w10.setCell ⟨gp,2,none⟩ (.slice A10 (acc.length+1) c10)) gp 41 #[.int .i64 t.1,.slice As u.1.length cs,(.slice A10 (acc.length+1) c10)]):=a9.out.set (k:=2) (.slice A10 (acc.length+1) c10);have a5:Hid (AZ (w10.setCell ⟨gp,2,none⟩ (.slice A10 (acc.length+1) c10)) r (G s').2):=zd.setOther k7.out (a:=⟨gp,2,none⟩) (by have:=E.out;show r≠gp;omega) (.slice A10 (acc.length+1) c10);have a3:=zh (j4.out.chg (zp.set (X:=fun b=>b=gp) (zp.refl _ w10) gp 2 (.slice A10 (acc.length+1) c10) rfl) (fun b hb e=>by have:=J.out;omega));generalize w10.setCell ⟨gp,2,none⟩ (.slice A10 (acc.length+1) c10)=wz at a4 O a5 a3⊢;go_wp2;go_roundw
     case rel=>exact ⟨j+1,acc++[(G s').1],_,_,(G s').2,by go_num,by omega,e1.out,a4.out,a5.out,O.out,a3.out,d7.out,e2.out⟩
     case measure=>simp [intOf];omega
    refine Es rfl (fun K D=>?_) .nil;go_simp;have b8:=zd.new w7 #[.int .i64 (G s').1.task,.slice As7 (G s').1.side.length cs7,.slice Ak7 (G s').1.kids.length ck7] 41 (g:=w7.heap.size) rfl;have hA13:za w7 (w7.alloc (.cells #[.int .i64 (G s').1.task,.slice As7 (G s').1.side.length cs7,.slice Ak7 (G s').1.kids.length ck7] 41)):=(za.refl w7).alloc _;generalize w7.alloc _=w13 at b8 hA13⊢;generalize w7.heap.size=g13 at b8⊢;have i7:=zh b8;have M:Hid (zp (fun b=>b=r) wq w13):=(d9.out).tr (Cb hA13);have j8:=zh (j9.out.ext hA13);have g7:=zh (l0.out.ext hA13);clear b8 hA13;refine EZ D (B.out.tr ((M.out).wide (fun _ h=>.inl h))) fun zH=>?_;clear D K;try simp only [zb,DN]
    refine AD 1 fun K D=>?_;have cg14:w13.cell? ⟨gp,2,none⟩=some vk:=zp.cellk (M.out) (Q.out.cell (k:=2) rfl) (by have:=E.out;show ¬ (gp=r);omega);go_simp;clear cg14;refine EZ D (B.out.tr ((M.out).wide (fun _ h=>.inl h))) fun zH=>?_;clear D K;try simp only [zb,DN]
    refine AD 5 fun K D=>?_;have g0:Hid (AG w13 w6.heap.size vk acc cs'):=I.out.chg (M.out) (fun b hb e=>by have:=J.out;have:=E.out;omega);refine zW (ok:=fun _=>True) (by rfl) w13 _ _ CW (by rfl) w6.heap.size acc.length 1 cs' _ vk _ (by rfl) (by rfl) g0.out.own (Cd i7.out) (fun u hu=>by simp at hu;rcases hu with rfl | rfl | rfl <;> rfl) (by have h1:=B.out.size;have h2:=zp.size (M.out);omega) (by have:=c0.out;unfold maxLen;omega) (by have:=c0.out;omega) ?_;intro v15 w15 f1 a7 h5;have j5:=zh (show AG w15 w6.heap.size _ (acc++[(G s').1]) (cs'++[.int .i64 (G s').1.task,.slice As7 (G s').1.side.length cs7,.slice Ak7 (G s').1.kids.length ck7]) from g0.out.app (lo:=wd.heap.size) j8.out (fun k hk=>by have h1:=I.out.lt hk;have h2:=b7.out;omega) (by have h1:=B.out.size;have h2:=b7.out;omega) f1 a7 h5);have b6:Hid (zp (fun b=>b=r\/b=gp) w6 w15):=zp.grown (B.out.tr ((M.out).wide (fun _ h=>.inl h))) a7 (fun k hk e9=>by have h1:=I.out.lt hk;omega);obtain ⟨A15,c15,e15,-,-⟩:=Ae.of_own f1;subst e15;have b3:Hid (zd w15 gp 41 #[.int .i64 t.1,.slice As u.1.length cs,vk]):=(a7.block gp (by have h1:=J.out;have h2:=B.out.size;have h3:=zp.size (M.out);omega) (fun e=>by have h1:=I.out.lt e.symm;have h2:=J.out;omega)).trans (zp.blk (M.out) Q.out (by have:=E.out;omega));have k8:Hid (AZ w15 r (G s').2):=(a7.block r (zc g7.out) (fun e=>by have h1:=I.out.lt e.symm;have h2:=J.out;have h3:=E.out;omega)).trans g7.out;clear f1 a7 h5;refine EZ D (b6.out) fun zH=>?_;clear D K;try simp only [zb,DN]
    refine AD 6 fun K D=>?_;go_simp;refine EZ D (b6.out) fun zH=>?_;clear D K;try simp only [zb,DN]
    refine AD 7 fun K D=>?_;have cg17:=b3.out.cell (k:=2) rfl;have fg17:=b3.out.frozen 2;go_simp;clear cg17 fg17;refine EZ D (zp.set (b6.out) gp 2 (.slice A15 (acc.length+1) c15) (.inr rfl)) fun zH=>?_;clear D K;try simp only [zb,DN]
    refine Ev (by kernel_rfl) ?_ _;have a4:Hid (zp (fun b=>b=r\/b=gp) w6 (w15.setCell ⟨gp,2,none⟩ (.slice A15 (acc.length+1) c15))):=zp.set (b6.out) gp 2 (.slice A15 (acc.length+1) c15) (.inr rfl);have O:Hid (zd (w15.setCell ⟨gp,2,none⟩ (.slice A15 (acc.length+1) c15)) gp 41 #[.int .i64 t.1,.slice As u.1.length cs,(.slice A15 (acc.length+1) c15)]):=b3.out.set (k:=2) (.slice A15 (acc.length+1) c15);have a5:Hid (AZ (w15.setCell ⟨gp,2,none⟩ (.slice A15 (acc.length+1) c15)) r (G s').2):=zd.setOther k8.out (a:=⟨gp,2,none⟩) (by have:=E.out;show r≠gp;omega) (.slice A15 (acc.length+1) c15);have a3:=zh (j5.out.chg (zp.set (X:=fun b=>b=gp) (zp.refl _ w15) gp 2 (.slice A15 (acc.length+1) c15) rfl) (fun b hb e=>by have:=J.out;omega));generalize w15.setCell ⟨gp,2,none⟩ (.slice A15 (acc.length+1) c15)=wz at a4 O a5 a3⊢;go_wp2;go_roundw
    case rel=>exact ⟨j+1,acc++[(G s').1],_,_,(G s').2,by go_num,by omega,e1.out,a4.out,a5.out,O.out,a3.out,d7.out,e2.out⟩
    case measure=>simp [intOf];omega
def decF (l:List UInt8):Option PT:=if (rdF (l.length+1) (l,false)).2.2=true\/0<AC (rdF (l.length+1) (l,false)).2\/encP (rdF (l.length+1) (l,false)).1≠l then none else some (rdF (l.length+1) (l,false)).1
mutual
def PT.wt:PT->Nat
 | .node _ s ks=>1+s.length+PT.wtL ks
def PT.wtL:List PT->Nat
 | []=>0
 | k :: ks=>k.wt+PT.wtL ks
end
theorem wtL_app:∀(a b:List PT),PT.wtL (a++b)=PT.wtL a+PT.wtL b
 | [],b=>by simp [PT.wtL]
 | k :: a,b=>by rw [List.cons_append];simp only [PT.wtL,wtL_app a b];omega
theorem intF_lv (s:Rd):lv (zT s).2<=lv s - 1:=by
 cases B:s.2 with
 | true=>rw [intF_bad B];simp [lv]
 | false=>have:=lv_dec (CL s).2 B;omega
theorem elsF_lv:∀(f:Nat) (s:Rd) (l:List Int),(Ca f s l).1.length+lv (Ca f s l).2<=l.length+lv s/\((∀x∈l,I64 x)->∀x∈(Ca f s l).1,I64 x)
 | 0,s,l=>⟨DR _,fun h=>h⟩
 | f+1,s,l=>by
  unfold Ca
  split
  ·exact ⟨DR _,fun h=>h⟩
  ·rename_i B
   have D:s.2=false:=by
    cases h:s.2 with
    | false=>rfl
    | true=>exact absurd (.inl (by unfold AC;rw [h];rfl)) B
   obtain ⟨h1,h2⟩:=elsF_lv f (zT s).2 (l++[(zT s).1]);have h3:=intF_lv s;have E:=lv_ok D;refine ⟨by rw [DZ,Er] at h1;omega,fun h=>h2 fun x hx=>?_⟩;rcases EH.1 hx with hx | hx
   ·exact h x hx
   ·rw [Ey.1 hx];exact intF_bound s
theorem intsF_lv (s:Rd):(Am s).1.length+lv (Am s).2<=lv s/\∀x∈(Am s).1,I64 x:=by
 unfold Am
 split
 ·exact ⟨by simp [lv],fun x B=>by cases B⟩
 ·rename_i G
  have I:s.2=false:=by
   cases h:s.2 with
   | false=>rfl
   | true=>exact absurd (.inl (by unfold AC;rw [h];rfl)) G
  obtain ⟨h1,h2⟩:=elsF_lv s.1.tail.length (s.1.tail,false) [];have h0:lv (s.1.tail,false)<=lv s:=by rw [lv_ok I];simp [lv]
  unfold intsE
  split
  ·exact ⟨by simp [lv],fun x B=>by cases B⟩
  ·rename_i E
   have D:(Ca s.1.tail.length (s.1.tail,false) []).2.2=false:=by
    cases h:(Ca s.1.tail.length (s.1.tail,false) []).2.2 with
    | false=>rfl
    | true=>exact absurd (by unfold AC;rw [h];rfl) E
   have J:lv ((Ca s.1.tail.length (s.1.tail,false) []).2.1.tail,false)<=lv (Ca s.1.tail.length (s.1.tail,false) []).2:=by rw [lv_ok D];simp [lv]
   refine ⟨?_,h2 fun x B=>by cases B⟩;simp only [EX,Nat.zero_add] at h1;show (Ca s.1.tail.length (s.1.tail,false) []).1.length+lv ((Ca s.1.tail.length (s.1.tail,false) []).2.1.tail,false)<=_;omega
theorem okL_of:∀{ks:List PT},(∀k∈ks,k.Ok)->PT.OkL ks
 | [],_=>by unfold PT.OkL;exact True.intro
 | k :: ks,h=>by
  unfold PT.OkL;exact ⟨h k (ED ..),okL_of fun x B=>h x (El _ B)⟩
theorem kidsF_wt {g:Rd->PT×Rd} (G:∀s,s.2=false->(g s).1.wt+lv (g s).2<=lv s/\(s.1.length<=1000000000->(g s).1.Ok)/\((g s).2.2=false->(g s).2.1.length<=s.1.length)):∀(n:Nat) (s:Rd) (ks:List PT),PT.wtL (Be g n s ks).1+lv (Be g n s ks).2<=PT.wtL ks+lv s/\ks.length+(Be g n s ks).1.length<=ks.length+ks.length+lv s/\(s.1.length<=1000000000->(∀k∈ks,k.Ok)->∀k∈(Be g n s ks).1,k.Ok)
 | 0,s,ks=>⟨DR _,by simp [Be],fun _ h=>h⟩
 | n+1,s,ks=>by
  unfold Be
  split
  ·exact ⟨DR _,by show ks.length+ks.length<=_;omega,fun _ h=>h⟩
  ·rename_i E
   have E:s.2=false:=by simpa using E
   obtain ⟨h1,h2,J⟩:=G s E;obtain ⟨h3,K,I⟩:=kidsF_wt G n (g s).2 (ks++[(g s).1]);rw [wtL_app] at h3;simp only [PT.wtL] at h3;have Q:1<=(g s).1.wt:=by cases (g s).1;unfold PT.wt;omega
   have O:=lv_ok E;refine ⟨by omega,by rw [DZ,Er] at K;omega,fun L M=>?_⟩
   have D:∀k∈ks++[(g s).1],k.Ok:=fun k hk2=>by
    rcases EH.1 hk2 with hk2 | hk2
    ·exact M k hk2
    ·rw [Ey.1 hk2];exact h2 L
   cases B:(g s).2.2 with
   | false=>exact I (by have:=J B;omega) D
   | true=>
    rw [kidsF_stop (.inr B)];exact D
theorem rdF_wt:∀(f:Nat) (s:Rd),s.2=false->(rdF f s).1.wt+lv (rdF f s).2<=lv s/\(s.1.length<=1000000000->(rdF f s).1.Ok)/\((rdF f s).2.2=false->(rdF f s).2.1.length<=s.1.length)
 | 0,s,D=>by
  rw [lv_ok D];refine ⟨by simp [rdF,PT.zero,PT.wt,PT.wtL,lv],fun _=>?_,fun h=>by cases h⟩;show PT.Ok (.node 0 [] []);unfold PT.Ok PT.OkL;exact ⟨⟨by decide,by decide⟩,(fun x G=>by cases G),by simp,by simp,True.intro⟩
 | f+1,s,D=>by
  have a1:=intF_lv s;obtain ⟨a2,a3⟩:=intsF_lv (zT s).2;have a4:=intF_lv (Am (zT s).2).2;obtain ⟨a5,a6,a7⟩:=kidsF_wt (fun s h=>rdF_wt f s h) (zT (Am (zT s).2).2).1.toNat (zT (Am (zT s).2).2).2 [];have a8:=lv_ok D;have a9:=three_len s
  have B:(rdF (f+1) s).2.2=false->(rdF (f+1) s).2.1.length<=s.1.length:=fun h=>by
   have h1:=kidsF_lv (g:=rdF f) (fun s h=>Nat.le_of_lt (rdF_lv f s h)) (zT (Am (zT s).2).2).1.toNat (zT (Am (zT s).2).2).2 []
   have h2:lv (rdF (f+1) s).2<=lv s:=by
    have:lv (rdF (f+1) s).2<=lv (zT (Am (zT s).2).2).2:=h1;omega
   rw [lv_ok h,a8] at h2;omega
  refine ⟨?_,fun I=>?_,B⟩
  ·show (PT.node _ _ _).wt+lv (Be _ _ _ _).2<=_;unfold PT.wt;simp only [PT.wtL] at a5;omega
  ·show (PT.node _ _ _).Ok;unfold PT.Ok;refine ⟨intF_bound s,a3,by omega,?_,okL_of (a7 (by omega) fun k E=>by cases E)⟩;simp only [EX,Nat.zero_add] at a6;omega
mutual
theorem enc_wt:∀(p:PT),p.Ok->(encP p).length<=50*p.wt/\p.size<=p.wt
 | .node t s ks,h=>by
  unfold PT.Ok at h;obtain ⟨h1,h2,h3,D,B⟩:=h;have b1:=wI_len h1;have b2:=wIs_len h2;have b3:=wI_len (n:=(ks.length:Nat)) ⟨by omega,by omega⟩;obtain ⟨b4,b5⟩:=encs_wt ks B;unfold encP PT.wt PT.size;simp only [wL,DZ,EW,EX];exact ⟨by omega,by omega⟩
theorem encs_wt:∀(ks:List PT),PT.OkL ks->(Bw ks).length<=50*PT.wtL ks/\PT.sizeL ks<=PT.wtL ks
 | [],_=>by simp [Bw,PT.wtL,PT.sizeL]
 | k :: ks,h=>by
  unfold PT.OkL at h;obtain ⟨b1,b2⟩:=enc_wt k h.1;obtain ⟨b3,b4⟩:=encs_wt ks h.2;unfold Bw PT.wtL PT.sizeL;rw [DZ];exact ⟨by omega,by omega⟩
end
def decR (l:List UInt8):Int×PT:=if 262144<l.length then (2,.zero) else match decF l with
 | none=>(4,.zero)
 | some p=>(0,p)
theorem dec_end {n:Int} (D:a.tmps[2]?=some (.pointer (some ⟨gp,0,none⟩))) (E:a.tmps[3]?=some (.int .i64 n)) (G:a.defers=[]) (B:zd W gp 41 #[x,y,z]) (h:R (.returned (.tuple #[.agg #[x,y,z],.int .i64 n])) W):bodyPost Tryz.prog Tryz.f58 R Exit.ret a W:=by
 have c0:=B.cell (k:=0) rfl;have c1:=B.cell (k:=1) rfl;have c2:=B.cell (k:=2) rfl;have e:a.tmps.getD 2 undef=.pointer (some ⟨gp,0,none⟩):=by rw [Array.getD_eq_getD_getElem?,D];rfl
 have e3:a.tmps.getD 3 undef=.int .i64 n:=by rw [Array.getD_eq_getD_getElem?,E];rfl
 exact EL (v:=.tuple #[.agg #[x,y,z],.int .i64 n]) (by simp [results,Tryz.results58,go_sem,D,E,e,e3,c0,c1,c2]) G h
theorem dec_fin {wq:World} {v0 v1 v2:Value} {d:Int×PT} {p:PT} {n:Int} (L:gp=w.heap.size) (G:Below gp w wq) (D:zd wq gp 41 #[v0,v1,v2]) (hp:zM wq (fun b=>gp<b) (.agg #[x,y,z]) p) (K:d=(n,p)) (J:a.tmps[2]?=some (.pointer (some ⟨gp,0,none⟩))) (M:a.tmps[3]?=some (.int .i64 n)) (E:a.defers=[]):
  bodyPost Tryz.prog Tryz.f58 (fun e w'=>∃v,e=.returned (.tuple #[v,.int .i64 d.1])/\za w w'/\zM w' (fun b=>w.heap.size<=b) v d.2) Exit.ret a (((wq.setCell ⟨gp,0,none⟩ x).setCell ⟨gp,1,none⟩ y).setCell ⟨gp,2,none⟩ z):=by
 subst K;have I:zp (fun b=>b=gp) wq (((wq.setCell ⟨gp,0,none⟩ x).setCell ⟨gp,1,none⟩ y).setCell ⟨gp,2,none⟩ z):=(((zp.refl (fun b=>b=gp) _).set gp 0 _ rfl).set gp 1 _ rfl).set gp 2 _ rfl
 have B:za w (((wq.setCell ⟨gp,0,none⟩ x).setCell ⟨gp,1,none⟩ y).setCell ⟨gp,2,none⟩ z):=by
  subst L;exact ((G.setCell (p:=⟨_,0,none⟩) (DR _) _).setCell (p:=⟨_,1,none⟩) (DR _) _).setCell (p:=⟨_,2,none⟩) (DR _) _
 exact dec_end J M E (((D.set (k:=0) x).set (k:=1) y).set (k:=2) z) ⟨_,rfl,B,hp.keepW (I.same fun b D e=>by omega) fun b D=>by omega⟩
theorem dec_calls {l:List UInt8} (w:World) (hv:zN w):Calls Tryz.prog 58 #[.string ⟨l.toArray⟩] w fun e w'=>∃v,e=.returned (.tuple #[v,.int .i64 (decR l).1])/\za w w'/\zM w' (fun b=>w.heap.size<=b) v (decR l).2:=by
 have HV:=zh hv;obtain ⟨d,hd⟩:=EY (decR l);rw [<-hd];have HD:=zh hd;clear hv hd
 go_enter Tryz.func58,Tryz.ntmps58
 go_upto_region 1 with fail;have E:Hid (zd (w.alloc (.cells #[.int .i64 0,.slice none 0 0,.slice none 0 0] 41)) w.heap.size 41 #[.int .i64 0,.slice none 0 0,.slice none 0 0]):=zd.new _ _ _ rfl;have a5:Hid (za w (w.alloc (.cells #[.int .i64 0,.slice none 0 0,.slice none 0 0] 41))):=(za.refl w).alloc _;generalize w.alloc _=w1 at E a5⊢;obtain ⟨gp,b7⟩:∃g,g=w.heap.size:=⟨_,rfl⟩;rw [<-b7] at E⊢;have J:=zh b7;have fz:∀k,w1.frozen? ⟨gp,k,none⟩=false:=fun k=>E.out.frozen k
 have b0:=E.out.cell (k:=0) rfl;have b1:=E.out.cell (k:=1) rfl;have b2:=E.out.cell (k:=2) rfl;clear b7;by_cases hl:262144<l.length
 ·have I:Hid (d=(2,.zero)):=by (show _=_);rw [HD.out];unfold decR;rw [if_pos hl]
  have f1:(262144:Int)<(l.length:Int):=by omega
  have f2:decide (262144<l.length)=true:=DU hl
  go_wp2_with fail
  exact dec_fin J.out (by rw [J.out];exact a5.out) E.out (zM.zero _ _) I.out rfl rfl rfl
 ·have f1:¬ ((262144:Int)<(l.length:Int)):=by omega
  have f2:decide (262144<l.length)=false:=DV hl;have e4:=zh (Nat.le_of_not_lt hl);obtain ⟨q,hq⟩:=EY (rdF (l.length+1) (l,false))
  have M:Hid (d=match (if q.2.2=true\/0<AC q.2\/encP q.1≠l then none else some q.1) with | none=>(4,.zero) | some p=>(0,p)):=by
   (show _=_);rw [HD.out,hq];unfold decR;rw [if_neg hl];rfl
  have a3:=rdF_wt (l.length+1) (l,false) rfl;rw [<-hq] at a3;have b8:=a3.2.1 (by show l.length<=_;omega);have f0:=enc_wt q.1 b8;have f3:lv (l,false)=l.length+1:=lv_ok rfl;have e5:=zh b8;have a6:Hid ((encP q.1).length<=9223372036854775000):=by (show _<=_);have:=a3.1;omega
  have HQ:=zh hq;clear hl a3 b8 f0 f3 hq b0 b1 b2 fz
  go_wp2_with fail
  refine (wNew_calls l w1).mono ?_;rintro e w2 ⟨rfl,a0,b5⟩;obtain ⟨r,hr⟩:=EY w1.heap.size;rw [<-hr] at b5⊢;have a9:Hid (gp<r/\r=w1.heap.size):=⟨by have:=zc E.out;omega,hr⟩;have d8:za w w2:=a5.out.trans a0;have d4:=zh b5;have c0:=zh (E.out.ext a0);have c7:=zh d8;have c6:=zh a0;clear b5 hr a0 d8 E
  go_wp2_with fail
  refine (read_calls (l.length+1) w2 (HV.out.ext c7.out) d4.out (Nat.lt_succ_self _) (by have:=e4.out;omega)).mono ?_;rintro e w3 ⟨v,rfl,b4,b6,a1⟩;rw [<-HQ.out] at b6 a1;obtain ⟨As,cs,Ak,ck,rfl,-⟩:=a1.form;have c8:Hid (zM w3 (fun b=>gp<b) (.agg #[.int .i64 q.1.task,.slice As q.1.side.length cs,.slice Ak q.1.kids.length ck]) q.1):=a1.keepW (fun _ _ _=>rfl) (fun b hb=>by have:=c6.out.size;have:=a9.out;omega);have a4:Hid (zd w3 gp 41 #[.int .i64 0,.slice none 0 0,.slice none 0 0]):=b4.blk c0.out (by have:=a9.out;omega);have d7:Hid (Below gp w w3):=by (show Below _ _ _);rw [J.out];exact (zp.trans (Cb c7.out) b4 (X:=(·=r)) (fun _ _ h=>h)).below (DR _) (fun b hb=>by have:=a9.out;have:=J.out;omega)
  have d5:=zh b6;clear b4 b6 a1 c0 d4;go_upto_region 5 with fail;obtain ⟨O,p0,p1,p2⟩:=box3 w3 (.int .i64 q.1.task) (.slice As q.1.side.length cs) (.slice Ak q.1.kids.length ck);generalize w3.alloc _=w4 at O p0 p1 p2⊢;obtain ⟨gq,d9⟩:∃g,g=w3.heap.size:=⟨_,rfl⟩;rw [<-d9] at p0 p1 p2⊢;have c9:=zh (c8.out.ext O);have G:=zh (a4.out.ext O);have V:Hid (Below gp w w4):=Below.trans d7.out (O.mono (Nat.le_of_lt (zc a4.out)));have d6:=zh (d5.out.ext O);have e8:Hid (zN w4):=HV.out.ext (by have:=V.out;rw [J.out] at this;exact this);have L:=zh (CP w4 d6.out);have a8:=zh (DI w4 d6.out);have hx:za w4 w4:=za.refl w4;have z0:=G.out.cell (k:=0) rfl;have z1:=G.out.cell (k:=1) rfl;have z2:=G.out.cell (k:=2) rfl;have fz:∀k,w4.frozen? ⟨gp,k,none⟩=false:=fun k=>G.out.frozen k
  clear d9 O c8 a4 d7 d5;by_cases B:q.2.2=true
  ·have I:Hid (d=(4,.zero)):=by (show _=_);rw [M.out,if_pos (.inl B)]
   rw [B] at L;clear B
   go_wp2_with fail
   refine L.out.mono ?_;rintro e w5 ⟨rfl,rfl⟩
   go_wp2_with fail
   exact dec_fin J.out V.out G.out (zM.zero _ _) I.out rfl rfl rfl
  ·have a2:q.2.2=false:=by simpa using B
   rw [a2] at L;by_cases U:0<AC q.2
   ·have I:Hid (d=(4,.zero)):=by (show _=_);rw [M.out,if_pos (.inr (.inl U))]
    have e0:(0:Int)<(AC q.2:Int):=by omega
    have e1:decide (0<AC q.2)=true:=DU U;clear B a2
    go_wp2_with fail
    refine L.out.mono ?_;rintro e w5 ⟨rfl,rfl⟩
    go_wp2_with fail
    refine a8.out.mono ?_;rintro e w5 ⟨rfl,rfl⟩
    go_wp2_with fail
    exact dec_fin J.out V.out G.out (zM.zero _ _) I.out rfl rfl rfl
   ·have e0:¬ ((0:Int)<(AC q.2:Int)):=by omega
    have e1:decide (0<AC q.2)=false:=DV U;have a7:=zh (enc_calls q.1.size w4 e8.out c9.out (DR _) e5.out a6.out);by_cases Q:encP q.1=l
    ·have I:Hid (d=(0,q.1)):=by (show _=_);rw [M.out,if_neg (fun h=>h.elim B fun h=>h.elim U fun h=>h Q)]
     rw [Q] at a7;clear B a2 U Q M HD HQ a6
     go_wp2_with fail
     refine L.out.mono ?_;rintro e w5 ⟨rfl,rfl⟩
     go_wp2_with fail
     refine a8.out.mono ?_;rintro e w5 ⟨rfl,rfl⟩
     go_wp2_with fail
     refine a7.out.mono ?_;rintro e w6 ⟨rfl,K⟩;have e6:=zh (c9.out.ext K);have D:=zh (G.out.ext K);have b3:Hid (Below gp w w6):=Below.trans V.out (K.mono (Nat.le_of_lt (zc G.out)));have y0:=D.out.cell (k:=0) rfl;have y1:=D.out.cell (k:=1) rfl;have y2:=D.out.cell (k:=2) rfl;have fy:∀k,w6.frozen? ⟨gp,k,none⟩=false:=fun k=>D.out.frozen k
     clear z0 z1 z2 fz hx;have hx:za w4 w6:=K;clear K
     go_wp2_with fail
     exact dec_fin J.out b3.out D.out e6.out I.out rfl rfl rfl
    ·have I:Hid (d=(4,.zero)):=by (show _=_);rw [M.out,if_pos (.inr (.inr Q))]
     have f9:(encP q.1==l)=false:=by simp [Q]
     clear B a2 U Q M HD HQ a6
     go_wp2_with fail
     refine L.out.mono ?_;rintro e w5 ⟨rfl,rfl⟩
     go_wp2_with fail
     refine a8.out.mono ?_;rintro e w5 ⟨rfl,rfl⟩
     go_wp2_with fail
     refine a7.out.mono ?_;rintro e w6 ⟨rfl,K⟩;have D:=zh (G.out.ext K);have b3:Hid (Below gp w w6):=Below.trans V.out (K.mono (Nat.le_of_lt (zc G.out)));have y0:=D.out.cell (k:=0) rfl;have y1:=D.out.cell (k:=1) rfl;have y2:=D.out.cell (k:=2) rfl;have fy:∀k,w6.frozen? ⟨gp,k,none⟩=false:=fun k=>D.out.frozen k
     clear z0 z1 z2 fz hx K
     go_wp2_with fail
     exact dec_fin J.out b3.out D.out (zM.zero _ _) I.out rfl rfl rfl
end
end Go.Proofs.YtjomnbdjajjgfaaGreatDoor
