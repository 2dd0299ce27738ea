import Derived.Test.YtjomnbdjajjgfaaGreatDoorWKv
set_option linter.unusedVariables false
set_option linter.unusedSimpArgs false
set_option maxRecDepth 100000
set_option maxHeartbeats 16000000
namespace Go.Proofs.YtjomnbdjajjgfaaGreatDoor
variable {a:Act} {n:Int} {m:MZ} {gp gz k:Nat} {ok:Nat->Prop} {x y z:Value} {WZ w w2 w9 wq:World}
section
open Go.RowKit
attribute [local go_sem ↓] Go.wp_at_zero Go.wp_at_succ
attribute [local go_sem] Oper.semAt_some
theorem any_take {p:Int->Bool} {S:List Int} {j:Nat} (o:j<S.length):(S.take (j+1)).any p=((S.take j).any p || p S[j]):=by
 rw [DY o,List.any_append];simp
theorem chg_ext2 {wr:World} (h:za w2 w9) (o:zp (fun b=>b=gp) w9 wr) (D:w2.heap.size<=gp):za w2 wr:=
 ⟨o.os.trans h.os,o.tape.trans h.tape,o.output.trans h.output,DT h.size o.size,fun b B=>(o.block b (Et B h.size) (by omega)).trans (h.block b B)⟩
theorem mk1_fin {r:Int×PT×Nat} {p:PT} {k:Int} (K:Below gz wq WZ) (U:za w wq) (M:w.heap.size<=gz) (O:∀k,k<wq.heap.size->k≠gz->WZ.heap[k]?=wq.heap[k]?) (o:zd WZ gz 41 #[x,y,z]) (hp:zM wq (fun b=>w.heap.size<=b/\b≠gz) (.agg #[x,y,z]) p)
  (Q:r.2.1=p/\(r.2.2:Int)=k/\r.1=n) (I:a.tmps[6]?=some (.pointer (some ⟨gz,0,none⟩))) (J:a.tmps[8]?=some (.int .i64 n)) (B:a.tmps[7]?=some (.int .i64 k)) (L:a.defers=[]):
  bodyPost Tryz.prog Tryz.f61 (Mk1 w r) Exit.ret a WZ:=by
 have c0:=o.cell (k:=0) rfl;have c1:=o.cell (k:=1) rfl;have c2:=o.cell (k:=2) rfl;have e:a.tmps.getD 6 undef=.pointer (some ⟨gz,0,none⟩):=by rw [Array.getD_eq_getD_getElem?,I];rfl
 have e7:a.tmps.getD 7 undef=.int .i64 k:=by rw [Array.getD_eq_getD_getElem?,B];rfl
 have e8:a.tmps.getD 8 undef=.int .i64 n:=by rw [Array.getD_eq_getD_getElem?,J];rfl
 obtain ⟨rfl,D,G⟩:=Q;refine EL (v:=.tuple #[.agg #[x,y,z],.int .i64 k,.int .i64 n]) (by simp [results,Tryz.results61,go_sem,I,B,J,e,e7,e8,c0,c1,c2]) L ⟨_,by rw [D,G],?_,?_⟩
 ·exact below_le U K M
 ·exact hp.keepW (fun b o E=>O b E o.2) (fun b o=>o.1)
noncomputable def mkB4:Code:=(Tryz.f61.body.bind (blkOf 4)).getD .skip
theorem meas1 {n:Nat} (h:k<n):n - (intOf (.int .i64 ((k:Int)+1))).toNat<n - (intOf (.int .i64 (k:Int))).toNat:=by simp [intOf];omega
theorem mkB4_wp (hl:Lens m) (hc:Bq m=0) {fl gm c:Nat} {ch:List Int} {okc:Nat->Prop} {w8:World} {L:List Int} {F:Int->Nat->Int×PT×Nat} {R:Int×List PT×Nat} {AL:Option Addr} {cL:Nat} {Q:Exit->Act->World->Prop} {Af Au At Ac:Option Addr} {cf cu ct cc:Nat} {u0 u4 u5 u7 u8 u9 u10 u11 u12 u13 u14 u15 u19 u20 u21 u22 u23 u24 u25 u26 u27 u28 u29 u30 u31 u32 u33 u34 u35 u36 u37 u38 u39 u40 u41 u42 u43 u44 u45 u46 u47 u48 u49 u50 u51 u52 u53 u54 u55 u56 u57 u58 u59 u60 u61 u62 u63 u64 u65 u66 u67 u68 u69 u70 u71 u72 u73 u74 u75 u76 u77 u78 u79 u80 u81 u82 u83 u84 u85 u86 u87 u88 u89 u90 u91 u92 u93 u94 u95 u96 u97 u98 u99 u100 u101 u102 u103 u104 u105 u106 u107 u108 u109 u110 u111 u112 u113 u114 u115 u116 u117 u118 u119 u120 u121 u122 u123 u124 u125 u126 u127 u128 u129 u130 u131 u132:Value}
  (hm:zt w ok (.agg #[.int .i64 m.w,.int .i64 m.h,.int .i64 m.l,.slice Af m.free.length cf,.slice Au m.up.length cu,.slice At m.tasks.length ct]) m) (c6:zk w okc (.slice Ac ch.length cc) ch) (hi:zy m ch) (hf:m.n.toNat+2<=fl+1+ch.length) (d6:(zm m ch).length<=m.tasks.length/\m.tasks.length<=6/\ch.length<=300/\∀x∈zm m ch,x≠[]/\x.length<=1000)
  (IH:Hid (∀(ch:List Int) (k:Nat) (ok okc:Nat->Prop) (v vc:Value) (w:World),zt w ok v m->zk w okc vc ch->zy m ch->m.n.toNat+2<=fl+ch.length->k<=3000->Calls Tryz.prog 61 #[v,vc,.int .i64 k] w (Mk1 w (zj m fl ch k))))
  (i5:Hid (c=zF m ch)) (f0:Hid (w.heap.size<=gz)) (HZ:Hid (zd w2 gz 41 #[.int .i64 0,.slice none 0 0,.slice none 0 0])) (a7:Hid (za w w2))
  (r0:∀W,za w2 W->W.cell? ⟨gm,0,none⟩=some (.int .i64 m.w)) (r1:∀W,za w2 W->W.cell? ⟨gm,1,none⟩=some (.int .i64 m.h)) (r2:∀W,za w2 W->W.cell? ⟨gm,2,none⟩=some (.int .i64 m.l))
  (r3:∀W,za w2 W->W.cell? ⟨gm,3,none⟩=some (.slice Af m.free.length cf)) (r4:∀W,za w2 W->W.cell? ⟨gm,4,none⟩=some (.slice Au m.up.length cu)) (r5:∀W,za w2 W->W.cell? ⟨gm,5,none⟩=some (.slice At m.tasks.length ct))
  (i7:Hid (gz<gp)) (b4:Hid (w2.heap.size<=gp)) (j2:L.length<=400000000000) (f5:Hid (∀n∈L,zy m (ch++[n]))) (f1:Hid (zk w9 (fun b=>w8.heap.size<=b) (.slice AL L.length cL) L)) (g5:Hid (za w2 w9)) (f7:Hid (zd w9 gp 41 #[.int .i64 c,.slice none 0 0,.slice none 0 0])) (e9:Hid (gp<w8.heap.size)) (a4:Hid (gp<w9.heap.size)) (f2:Hid (k+1<=3000))
  (e8:Hid (F=fun n k=>zj m fl (ch++[n]) k)) (g1:Hid (R=zJ F L (k+1) [])) (f8:Hid (zj m (fl+1) ch k=if R.1=0 then (0,.node c [] R.2.1,R.2.2) else (R.1,.zero,R.2.2))) (f4:Hid (AG w9 w9.heap.size (.slice none 0 0) [] []))
  (hN:∀(wq:World) (kk:Nat) (acc:List PT) (vk:Value) (cs:List Value),Hid (R=(0,acc,kk))->Hid (zp (fun b=>b=gp) w9 wq)->Hid (zd wq gp 41 #[.int .i64 c,.slice none 0 0,vk])->Hid (AG wq w9.heap.size vk acc cs)->∀(x7 x8 x18 x19 x20 x21 x100 x101 x102 x103 x104 x105 x106 x107 x108 x109 x110 x111 x112 x113 x114 x115 x116 x117 x118 x119 x120 x121 x122 x123 x124 x125 x126 x127 x128 x129 x130:Value),Q .normal ⟨(u0 :: Value.slice Ac ch.length cc :: Value.int .i64 (kk:Nat) :: Value.pointer (some ⟨gm,0,none⟩) :: u4 :: u5 :: Value.pointer (some ⟨gz,0,none⟩) :: x7 :: x8 :: u9 :: u10 :: u11 :: u12 :: u13 :: u14 :: u15 :: Value.pointer (some ⟨gp,0,none⟩) :: Value.slice AL L.length cL :: x18 :: x19 :: x20 :: x21 :: u22 :: u23 :: u24 :: u25 :: u26 :: u27 :: u28 :: u29 :: u30 :: u31 :: u32 :: u33 :: u34 :: u35 :: u36 :: u37 :: u38 :: u39 :: u40 :: u41 :: u42 :: u43 :: u44 :: u45 :: u46 :: u47 :: u48 :: u49 :: u50 :: u51 :: u52 :: u53 :: u54 :: u55 :: u56 :: u57 :: u58 :: u59 :: u60 :: u61 :: u62 :: u63 :: u64 :: u65 :: u66 :: u67 :: u68 :: u69 :: u70 :: u71 :: u72 :: u73 :: u74 :: u75 :: u76 :: u77 :: u78 :: u79 :: u80 :: u81 :: u82 :: u83 :: u84 :: u85 :: u86 :: u87 :: u88 :: u89 :: u90 :: u91 :: u92 :: u93 :: u94 :: u95 :: u96 :: u97 :: u98 :: u99 :: x100 :: x101 :: x102 :: x103 :: x104 :: x105 :: x106 :: x107 :: x108 :: x109 :: x110 :: x111 :: x112 :: x113 :: x114 :: x115 :: x116 :: x117 :: x118 :: x119 :: x120 :: x121 :: x122 :: x123 :: x124 :: x125 :: x126 :: x127 :: x128 :: x129 :: x130 :: u131 :: u132 :: []).toArray,[]⟩ wq)
  (hP:∀c (a a':Act) w,a.defers=a'.defers->Q (.panic c) a w->Q (.panic c) a' w) (h7:∀a W,bodyPost Tryz.prog Tryz.f61 (Mk1 w (zj m (fl+1) ch k)) Exit.ret a W->Q .ret a W):
  mkB4.wp Tryz.prog Q ⟨(u0 :: Value.slice Ac ch.length cc :: Value.int .i64 ((k+1:Nat):Int) :: Value.pointer (some ⟨gm,0,none⟩) :: u4 :: u5 :: Value.pointer (some ⟨gz,0,none⟩) :: u7 :: u8 :: u9 :: u10 :: u11 :: u12 :: u13 :: u14 :: u15 :: Value.pointer (some ⟨gp,0,none⟩) :: Value.slice AL L.length cL :: Value.int .i64 0 :: u19 :: u20 :: u21 :: u22 :: u23 :: u24 :: u25 :: u26 :: u27 :: u28 :: u29 :: u30 :: u31 :: u32 :: u33 :: u34 :: u35 :: u36 :: u37 :: u38 :: u39 :: u40 :: u41 :: u42 :: u43 :: u44 :: u45 :: u46 :: u47 :: u48 :: u49 :: u50 :: u51 :: u52 :: u53 :: u54 :: u55 :: u56 :: u57 :: u58 :: u59 :: u60 :: u61 :: u62 :: u63 :: u64 :: u65 :: u66 :: u67 :: u68 :: u69 :: u70 :: u71 :: u72 :: u73 :: u74 :: u75 :: u76 :: u77 :: u78 :: u79 :: u80 :: u81 :: u82 :: u83 :: u84 :: u85 :: u86 :: u87 :: u88 :: u89 :: u90 :: u91 :: u92 :: u93 :: u94 :: u95 :: u96 :: u97 :: u98 :: u99 :: u100 :: u101 :: u102 :: u103 :: u104 :: u105 :: u106 :: u107 :: u108 :: u109 :: u110 :: u111 :: u112 :: u113 :: u114 :: u115 :: u116 :: u117 :: u118 :: u119 :: u120 :: u121 :: u122 :: u123 :: u124 :: u125 :: u126 :: u127 :: u128 :: u129 :: u130 :: u131 :: u132 :: []).toArray,[]⟩ w9:=by
 conv=>arg 2;whnf
 have HM:=zh hm;have HL:=zh hl;have HC:=zh hc;have HI:=zh hi;have HF:=zh hf;have e6:=zh c6;have f9:=zh d6;clear hm hl hc hi hf c6 d6;obtain ⟨_,_,e,-,d8⟩:=f1.out;injection e with e1 e2 e3;subst e1 e3;have g0:=zh d8;have f6:=zh hN;clear d8 e2 hN
 go_wp2_with fail
 go_loopw [18,2] (fun v n wr=>∃(j kk:Nat) (acc:List PT) (vk:Value) (cs:List Value),v=.int .i64 j/\n=.int .i64 kk/\j<=L.length/\Hid (acc.length=j)/\kk<=3000/\Hid (R=zJ F (L.drop j) kk acc)/\Hid (zp (fun b=>b=gp) w9 wr)/\Hid (zd wr gp 41 #[.int .i64 c,.slice none 0 0,vk])/\Hid (AG wr w9.heap.size vk acc cs)) (fun v _ _=>L.length - (intOf v).toNat)
 case atStart=>exact ⟨0,k+1,[],.slice none 0 0,[],rfl,rfl,Ef _,rfl,f2.out,g1.out,zp.refl _ _,f7.out,f4.out⟩
 case round=>
  obtain ⟨j,kk,acc,vk,cs,rfl,rfl,hj,O,d4,b2,G,b0,M⟩:=hrel;obtain ⟨wq,rfl⟩:∃wq:World,wq=wr:=⟨_,rfl⟩;have B:Hid (za w2 wq):=chg_ext2 g5.out G.out b4.out;by_cases o:j<L.length
  ·have j5:(0:Int)<=(j:Int):=by omega
   have g8:(j:Int)<(L.length:Int):=by omega
   obtain ⟨bl,offl,rfl,c0,a1⟩:=zE g0.out o o;have c7:wq.cell? ⟨bl,offl+j,none⟩=some (.int .i64 L[j]):=G.out.cellk a1 (by have h1:w8.heap.size<=bl:=c0;have:=e9.out;show ¬ (bl=gp);omega);have qn:=za.rule c7;have a5:Hid (zy m (ch++[L[j]])):=f5.out _ (DS o);have a2:Hid (L.drop j=L[j] :: L.drop (j+1)):=List.drop_eq_getElem_cons o;obtain ⟨n,hn⟩:=EY (L[j]);rw [<-hn] at qn a5 a2;have s0:∀W,za wq W->W.cell? ⟨gm,0,none⟩=some (.int .i64 m.w):=fun W h=>r0 W (B.out.trans h)
   have s1:∀W,za wq W->W.cell? ⟨gm,1,none⟩=some (.int .i64 m.h):=fun W h=>r1 W (B.out.trans h)
   have s2:∀W,za wq W->W.cell? ⟨gm,2,none⟩=some (.int .i64 m.l):=fun W h=>r2 W (B.out.trans h)
   have s3:∀W,za wq W->W.cell? ⟨gm,3,none⟩=some (.slice Af m.free.length cf):=fun W h=>r3 W (B.out.trans h)
   have s4:∀W,za wq W->W.cell? ⟨gm,4,none⟩=some (.slice Au m.up.length cu):=fun W h=>r4 W (B.out.trans h)
   have s5:∀W,za wq W->W.cell? ⟨gm,5,none⟩=some (.slice At m.tasks.length ct):=fun W h=>r5 W (B.out.trans h)
   clear hn c7 a1 c0;go_upto_region 24 with fail;go_cut [19,20,21] from 106 to 118 (fun v19 v20 v21 wx=>∃(g:Nat) (r:Int×PT×Nat) (As2 Ak2:Option Addr) (cs2 ck2:Nat),v19=.pointer (some ⟨g,0,none⟩)/\v20=.int .i64 (r.2.2:Int)/\v21=.int .i64 r.1/\Hid (r=zj m fl (ch++[n]) kk)/\Hid (F n kk=r)/\Hid (za wq wx)/\Hid (wq.heap.size<=g)/\Hid (zd wx g 41 #[.int .i64 r.2.1.task,.slice As2 r.2.1.side.length cs2,.slice Ak2 r.2.1.kids.length ck2])/\Hid (zM wx (fun b=>wq.heap.size<=b/\b≠g) (.agg #[.int .i64 r.2.1.task,.slice As2 r.2.1.side.length cs2,.slice Ak2 r.2.1.kids.length ck2]) r.2.1))
   case first=>
    refine Dr (c':=mk24) (by kernel_rfl) ?_;refine u24_wp (r:=zj m fl (ch++[n]) kk) (ch:=ch) s0 s1 s2 s3 s4 s5 qn o (zh fun W h=>with_calls29 n W (e6.out.below (a7.out.trans (B.out.trans h))) (by have:=f9.out;omega)) (zh fun W ok v h hv=>IH.out (ch++[n]) kk _ _ _ _ W (HM.out.below (a7.out.trans (B.out.trans h))) hv a5.out (by have:=HF.out;rw [DZ,Er];omega) d4) (fun c a a' w hd h=>hP c a a' w hd h) fun wz g As2 Ak2 cs2 ck2 b9 g9 a8 a9 _ _ _ _ _ _ _ _ _ _ _ _ _=>?_;obtain ⟨r,hr⟩:=EY (zj m fl (ch++[n]) kk);rw [<-hr] at a8 a9⊢;have I:Hid (F n kk=r):=by (show _=_);rw [e8.out];exact hr.symm
    have U:=zh hr;have K:=zh a8;have a6:=zh a9;have D:=zh b9;clear hr a8 a9 b9 qn s0 s1 s2 s3 s4 s5
    go_wp2_with fail
    go_meet;exact ⟨g,r,As2,Ak2,cs2,ck2,rfl,rfl,rfl,U,I,D,g9,K,a6⟩
   case rest=>
    obtain ⟨g,r,As2,Ak2,cs2,ck2,rfl,rfl,rfl,U,I,D,i8,K,a6⟩:=hcut;obtain ⟨wz,rfl⟩:∃W:World,W=wc:=⟨_,rfl⟩;clear qn s0 s1 s2 s3 s4 s5;have a0:za w2 wz:=B.out.trans D.out;by_cases E:r.1=0
    ·have h5:(r.1 != 0)=false:=by simp [E]
     have e7:Hid ((F n kk).1=0):=by (show _=_);rw [I.out];exact E
     have b7:Hid (R=zJ F (L.drop (j+1)) r.2.2 (acc++[r.2.1])):=by (show _=_);rw [b2.out,a2.out,kidsR_more e7.out,I.out]
     have b6:Hid (r.2.2<=3000):=by
      (show _<=_)
      have h:=(proveP_ok HC.out fl (ch++[n]) kk a5.out d4 (by rw [<-U.out];exact E)).2.2;rw [<-U.out] at h;exact h
     have b5:Hid (AG (wz.alloc (.cells #[.int .i64 r.2.1.task,.slice As2 r.2.1.side.length cs2,.slice Ak2 r.2.1.kids.length ck2] 41)) w9.heap.size vk acc cs):=M.out.chg (X:=fun _=>False) (zp.of_ext (D.out.trans ((za.refl _).alloc _))) (fun _ _ h=>h);have cp2:wz.cell? ⟨gp,2,none⟩=some vk:=(b0.out.ext D.out).cell (k:=2) rfl;have y0:=K.out.cell (k:=0) rfl;have y1:=K.out.cell (k:=1) rfl;have y2:=K.out.cell (k:=2) rfl;clear E
     go_wp2_with (at_builtin;refine By (ok:=fun _=>True) rfl _ _ _ CW rfl w9.heap.size acc.length 1 cs [.int .i64 r.2.1.task,.slice As2 r.2.1.side.length cs2,.slice Ak2 r.2.1.kids.length ck2] vk _ rfl rfl b5.out.own (Cd (zd.new _ _ _ rfl)) (fun u hu=>by simp at hu;rcases hu with rfl | rfl | rfl <;> rfl) (by have h1:=G.out.size;have h2:=D.out.size;simp;omega) (by have:=O.out;unfold maxLen;omega) (by have:=O.out;omega) ?_)
     intro vn wn ho hg hv;have d7:zM (wz.alloc (.cells #[.int .i64 r.2.1.task,.slice As2 r.2.1.side.length cs2,.slice Ak2 r.2.1.kids.length ck2] 41)) (fun b=>wq.heap.size<=b) (.agg #[.int .i64 r.2.1.task,.slice As2 r.2.1.side.length cs2,.slice Ak2 r.2.1.kids.length ck2]) r.2.1:=(a6.out.wk fun b hb _=>hb.1).ext ((za.refl _).alloc _);have d5:=b5.out.app d7 (fun k hk=>(M.out.lt hk).2) G.out.size ho hg (hv.imp id fun e=>e.trans (by simp));have V:zd wn gp 41 #[.int .i64 c,.slice none 0 0,vk]:=(hg.block gp (by have h1:=a4.out;have h2:=G.out.size;have h3:=D.out.size;simp;omega) (fun e=>by have h1:=M.out.lt e.symm;have h2:=a4.out;omega)).trans (b0.out.ext (D.out.trans ((za.refl _).alloc _)));have c8:zp (fun b=>b=gp) w9 wn:=zp.grown (zp.trans G.out (zp.of_ext (X:=fun b=>b=gp) (D.out.trans ((za.refl _).alloc _))) (fun _ _ h=>h)) hg (fun k hk j7=>by have h1:=M.out.lt hk;omega);obtain ⟨An,cn,evn,-,-⟩:=Ae.of_own ho;subst evn;have g3:Hid (zp (fun b=>b=gp) w9 (wn.setCell ⟨gp,2,none⟩ (.slice An (acc.length+1) cn))):=c8.set gp 2 _ rfl;have b8:Hid (zd (wn.setCell ⟨gp,2,none⟩ (.slice An (acc.length+1) cn)) gp 41 #[.int .i64 c,.slice none 0 0,.slice An (acc.length+1) cn]):=V.set (k:=2) _;have f3:=zh (d5.chg (zp.set (X:=fun b=>b=gp) (zp.refl _ wn) gp 2 (.slice An (acc.length+1) cn) rfl) (fun b hb e=>by have:=a4.out;omega));have cg:=V.cell (k:=2) rfl;have fg:=V.frozen 2;have b3:Hid ((acc++[r.2.1]).length=j+1):=by (show _=_);rw [DZ,O.out];rfl
     clear ho hg hv d7 d5 V c8 y0 y1 y2 cp2 a0
     go_wp2_with fail
     go_roundw
     case rel=>exact ⟨j+1,r.2.2,acc++[r.2.1],_,_,by go_num,rfl,by omega,b3,b6.out,b7,g3,b8,f3⟩
     case measure=>exact meas1 o
    ·have h5:(r.1 != 0)=true:=by simp [E]
     have HR:Hid ((zj m (fl+1) ch k).2.1=PT.zero/\(((zj m (fl+1) ch k).2.2:Nat):Int)=(r.2.2:Int)/\(zj m (fl+1) ch k).1=r.1):=by
      have h1:R=(r.1,[],r.2.2):=by
       rw [b2.out,a2.out,kidsR_stop (by rw [I.out];exact E),I.out]
      rw [f8.out,h1,if_neg E];exact ⟨rfl,rfl,rfl⟩
     have J:zd wz gz 41 #[.int .i64 0,.slice none 0 0,.slice none 0 0]:=HZ.out.ext a0;have z0:=J.cell (k:=0) rfl;have z1:=J.cell (k:=1) rfl;have z2:=J.cell (k:=2) rfl;have zf:∀j,wz.frozen? ⟨gz,j,none⟩=false:=fun j=>J.frozen j
     have e5:=zh J;have g4:=zh a0;clear J E a0
     go_wp2_with fail
     refine Bb (P:=fun W=>bodyPost Tryz.prog Tryz.f61 _ Exit.ret _ W) (g2:=gz) ?_ e5.out;intro WZ g7 g6 hk;exact mk1_fin g6 (a7.out.trans g4.out) f0.out hk g7 (zM.zero _ _) HR.out rfl rfl rfl rfl
  ·have b1:j=L.length:=by omega
   have g8:¬ ((j:Int)<(L.length:Int)):=by omega
   have a3:Hid (R=(0,acc,kk)):=by
    (show _=_)
    rw [b2.out,b1,List.drop_length];rfl
   have j6:=b1;clear b1
   go_wp2_with fail
   exact f6.out _ _ _ _ _ a3 G b0 M _ _ _ _ _ _ _ _ _ _ _ _ _ _ _ _ _ _ _ _ _ _ _ _ _ _ _ _ _ _ _ _ _ _ _ _ _
theorem make1_calls {m:MZ} (hl:Lens m) (hc:Bq m=0):∀(fl:Nat) (ch:List Int) (k:Nat) (ok okc:Nat->Prop) (v vc:Value) (w:World),zt w ok v m->zk w okc vc ch->zy m ch->m.n.toNat+2<=fl+ch.length->k<=3000->
  Calls Tryz.prog 61 #[v,vc,.int .i64 k] w (Mk1 w (zj m fl ch k))
 | 0,ch,k,ok,okc,v,vc,w,hm,f7,hi,hf,hk=>by
  have:=hi.len (AN.of hc);omega
 | fl+1,ch,k,ok,okc,v,vc,w,hm,f7,hi,hf,hk=>by
  have HM:=zh hm;have HL:=zh hl;have HC:=zh hc;have HI:=zh hi;have HF:=zh hf;have HK:=zh hk;have a3:=zh f7;have a5:=zh (zU hc hi);have o0:=zh (curT_le hc hi);have IH:=zh (make1_calls hl hc fl);obtain ⟨Af,cf,Au,cu,At,ct,rfl,-,-,k9⟩:=hm.parts;have m9:=zh k9;obtain ⟨Ac,cc,rfl,-,-⟩:=f7;have o8:=hl.ts;clear hm hl hc hi hf hk k9;obtain ⟨c,j4⟩:=EY (zF m ch);have E:=zh j4;clear j4
  go_enter Tryz.func61,Tryz.ntmps61
  go_upto_region 1 with fail;obtain ⟨f6,r0,r1,r2,r3,r4,r5⟩:=box6 w (.int .i64 m.w) (.int .i64 m.h) (.int .i64 m.l) (.slice Af m.free.length cf) (.slice Au m.up.length cu) (.slice At m.tasks.length ct);have b4:(w.alloc (.cells #[.int .i64 m.w,.int .i64 m.h,.int .i64 m.l,.slice Af m.free.length cf,.slice Au m.up.length cu,.slice At m.tasks.length ct] 32)).heap.size=w.heap.size+1:=by simp
  generalize w.alloc _=w1 at f6 r0 r1 r2 r3 r4 r5 b4⊢;have o:=zd.new w1 #[.int .i64 0,.slice none 0 0,.slice none 0 0] 41 (g:=w1.heap.size) rfl;have c9:za w1 (w1.alloc (.cells #[.int .i64 0,.slice none 0 0,.slice none 0 0] 41)):=(za.refl w1).alloc _;generalize w1.alloc _=w2 at o c9⊢;rw [b4] at o;obtain ⟨gz,j6⟩:∃g,g=w.heap.size+1:=⟨_,rfl⟩;obtain ⟨gm,f8⟩:∃g,g=w.heap.size:=⟨_,rfl⟩;rw [<-f8] at r0 r1 r2 r3 r4 r5;rw [<-j6] at o⊢;rw [<-f8];have M:Hid (w.heap.size<=gz):=by show _<=_;omega
  have HZ:=zh o;have a2:=zh c9;have B:=zh (f6.trans c9);have r0:=fun W h=>r0 W (a2.out.trans h)
  have r1:=fun W h=>r1 W (a2.out.trans h)
  have r2:=fun W h=>r2 W (a2.out.trans h)
  have r3:=fun W h=>r3 W (a2.out.trans h)
  have r4:=fun W h=>r4 W (a2.out.trans h)
  have r5:=fun W h=>r5 W (a2.out.trans h)
  clear j6 f8 f6 c9 b4 o;have D:za w2 w2:=za.refl w2;have e7:=zh (Dv w2 (HM.out.below B.out) HL.out HC.out (a3.out.below B.out) HI.out);rw [<-E.out] at e7
  go_wp2_with fail
  refine e7.out.mono ?_;rintro e w3 ⟨rfl,i6⟩;have J:za w2 w3:=D.trans i6;clear i6 D e7;by_cases I:m.tasks.length<=c
  ·have hd:decide (m.tasks.length<=c)=true:=DU I;rw [hd];clear hd
   have HR:Hid ((zj m (fl+1) ch k).2.1=PT.zero/\(((zj m (fl+1) ch k).2.2:Nat):Int)=(k:Int)/\(zj m (fl+1) ch k).1=51):=by
    have hp:zj m (fl+1) ch k=(51,.zero,k):=proveP_end (by rw [<-E.out];exact I);rw [hp];exact ⟨rfl,rfl,rfl⟩
   have o:zd w3 gz 41 #[.int .i64 0,.slice none 0 0,.slice none 0 0]:=HZ.out.ext J;have z0:=o.cell (k:=0) rfl;have z1:=o.cell (k:=1) rfl;have z2:=o.cell (k:=2) rfl;have zf:∀j,w3.frozen? ⟨gz,j,none⟩=false:=fun j=>o.frozen j
   have K:=zh o;have f3:=zh J;clear o
   go_wp2_with fail
   refine Bb (P:=fun W=>bodyPost Tryz.prog Tryz.f61 _ Exit.ret _ W) (g2:=gz) ?_ K.out;intro WZ V U hk;exact mk1_fin U (B.out.trans f3.out) M.out hk V (zM.zero _ _) HR.out rfl rfl rfl rfl
  ·have hd:decide (m.tasks.length<=c)=false:=DV I;rw [hd];have a8:Hid (¬ m.tasks.length<=zF m ch):=by show ¬ _;rw [<-E.out];exact I
   have n6:IntKind.i64.wrap ((k:Int)+1)=(k:Int)+1:=by rw [Em];have:=HK.out;omega
   clear hd;by_cases a0:3000<k+1
   ·have k3:(3000:Int)<(k:Int)+1:=by omega
    have HR:Hid ((zj m (fl+1) ch k).2.1=PT.zero/\(((zj m (fl+1) ch k).2.2:Nat):Int)=(k:Int)+1/\(zj m (fl+1) ch k).1=53):=by
     rw [DD a8.out a0];exact ⟨rfl,by simp,rfl⟩
    have o:zd w3 gz 41 #[.int .i64 0,.slice none 0 0,.slice none 0 0]:=HZ.out.ext J;have z0:=o.cell (k:=0) rfl;have z1:=o.cell (k:=1) rfl;have z2:=o.cell (k:=2) rfl;have zf:∀j,w3.frozen? ⟨gz,j,none⟩=false:=fun j=>o.frozen j
    have K:=zh o;have f3:=zh J;clear o
    go_wp2_with fail
    refine Bb (P:=fun W=>bodyPost Tryz.prog Tryz.f61 _ Exit.ret _ W) (g2:=gz) ?_ K.out;intro WZ V U hk;exact mk1_fin U (B.out.trans f3.out) M.out hk V (zM.zero _ _) HR.out rfl rfl rfl rfl
   ·have k3:¬ ((3000:Int)<(k:Int)+1):=by omega
    go_wp2_with fail
    refine (Cx w3 (HM.out.below (B.out.trans J)) HL.out (a3.out.below (B.out.trans J)) (by have:=a5.out;omega)).mono ?_;rintro e w4 ⟨vpp,rfl,i7,e5⟩;have f1:=zh e5;have g0:za w2 w4:=J.trans i7;obtain ⟨_,⟨App,cpp,rfl,-,-⟩,-⟩:=e5
    have HV:Hid (Calls Tryz.prog 119 #[.agg #[.int .i64 m.w,.int .i64 m.h,.int .i64 m.l,.slice Af m.free.length cf,.slice Au m.up.length cu,.slice At m.tasks.length ct],.slice App (zm m ch).length cpp] w4 fun e w'=>e=.returned (.int .i64 c)/\za w4 w'):=by
     rw [E.out];exact Ch w4 (HM.out.below (B.out.trans g0)) HL.out f1.out a5.out.1 (fun x D=>by have:=(a5.out.2.2.2 x D).2;omega)
    obtain ⟨PL,d9⟩:=EY ((zm m ch).length);rw [<-d9] at HV f1⊢;clear d9 i7 k3 n6 J;have O:=zh a0;have l5:Hid (c<m.tasks.length):=by show _<_;omega
    clear I a0
    go_wp2_with fail
    refine HV.out.mono ?_;rintro e w5 ⟨rfl,Q⟩;have g6:=zh Q;have l0:za w2 w5:=g0.trans Q;have i2:=zh l0;clear HV Q g0
    go_wp2_with fail
    clear l0;go_loopw [12] (fun v wr=>∃tn:Nat,v=.int .i64 tn/\c<=tn/\tn<=m.tasks.length/\Hid (∀j,c<=j->j<tn->offB m ch j=false)/\Hid (za w5 wr)) (fun v _=>m.tasks.length - (intOf v).toNat)
    case atStart=>exact ⟨c,rfl,DR _,by have:=l5.out;omega,fun j h1 h2=>(by omega),za.refl _⟩
    case round=>
     obtain ⟨tn,rfl,k7,n8,a1,hE⟩:=hrel;obtain ⟨wk,rfl⟩:∃wk:World,wk=wr:=⟨_,rfl⟩;have D:za w2 wk:=i2.out.trans hE.out;by_cases b3:tn<m.tasks.length
     ·have e4:(tn:Int)<(m.tasks.length:Int):=by omega
      have i0:Hid (zR wk _ (.slice App PL cpp) (zm m ch)):=(f1.out.below g6.out).below hE.out;have G:=zh b3;have h5:Hid ((Aj m ch tn).length<=20000000000000):=headP_len HL.out b3;have i1:=zh (sideP_len m ch tn);clear b3;go_upto_region 11 with fail;refine Dr (c':=mk11) (by kernel_rfl) ?_;refine u11_wp (tn:=tn) (HP:=fun W v=>∃ok,zk W ok v (Aj m ch tn)) (RP:=fun W w' v'=>Mk W w' v' (BI m ch tn)) (fun W h=>r0 W (D.trans h)) (fun W h=>r1 W (D.trans h)) (fun W h=>r2 W (D.trans h)) (fun W h=>r3 W (D.trans h)) (fun W h=>r4 W (D.trans h)) (fun W h=>r5 W (D.trans h)) (zh fun W h=>(vhead_calls tn W (HM.out.below (B.out.trans (D.trans h))) HL.out HC.out (a3.out.below (B.out.trans (D.trans h))) HI.out (i0.out.below h) G.out).mono (by rintro e w6 ⟨v6,rfl,a7,n3⟩;exact ⟨v6,rfl,a7,_,n3⟩)) (zh fun W v h hp=>(qReach_calls tn W (HM.out.below (B.out.trans (D.trans h))) HL.out hp.choose_spec h5.out (a3.out.below (B.out.trans (D.trans h))) (by have:=a5.out;omega)).mono (by rintro e w7 ⟨v7,rfl,a9⟩;exact ⟨v7,rfl,a9.ext,a9⟩)) (fun c a a' w hd h=>by obtain ⟨t,d⟩:=a;obtain ⟨t',d'⟩:=a';cases hd;exact h) fun w6 w7 v6 v7 a7 j2 i8 a9 _ _ _ _ _ _ _ _ _=>?_;have m3:=zh j2;have b6:Hid (zk w7 (fun b=>w6.heap.size<=b) v7 (BI m ch tn)):=a9.ints;have l6:Hid (za wk w6):=a7;have g7:Hid (za wk w7):=a7.trans i8;have n1:Hid (wk.heap.size<=w6.heap.size):=a7.size;obtain ⟨A7,c7,rfl,-,-⟩:=b6.out;clear D a7 j2 i8 a9;obtain ⟨S,hS⟩:=EY (BI m ch tn);rw [<-hS] at b6 i1⊢;have m8:=zh hS;have a6:Hid (za w2 wk):=i2.out.trans hE.out;have b8:Hid (za w2 w7):=a6.out.trans g7.out;obtain ⟨bt,offt,sn,u1,u2,rfl,-,-,-,j3,-,f9⟩:=Bm m9.out G.out;have hg:(m.tasks.getD tn ([],[])).2=(m.tasks[tn]'G.out).2:=by rw [zgd G.out]
      obtain ⟨To,c8⟩:=EY ((m.tasks.getD tn ([],[])).2);rw [<-hg,<-c8] at f9;have n9:To.length<=20000000000000:=by rw [c8,hg];have:=(HL.out.tl _ (DS G.out)).2;omega
      have m2:=zh f9;obtain ⟨A2,c2,rfl,-,-⟩:=f9;have q2:=za.rule (b8.out.cell (B.out.cell j3));have q5:∀W,za w7 W->W.cell? ⟨gm,5,none⟩=some (.slice (some ⟨bt,offt,none⟩) m.tasks.length ct):=fun W h=>r5 W (b8.out.trans h)
      have d7:Hid (∀n W,za w7 W->Calls Tryz.prog 73 #[.slice A2 To.length c2,.int .i64 n] W fun e w'=>e=.returned (.bool (decide (n∈To)))/\W=w'):=fun n W h=>zL n W (m2.out.below (B.out.trans (b8.out.trans h))) n9
      have b7:Hid (offB m ch tn=(!(S.any fun n=>decide (n∈To)) && (decide (S≠[]) || decide (c<tn)))):=by
       show _=_;unfold offB;rw [c8,hS,E.out]
      have o7:=i1.out;have o6:(0:Int)<=(tn:Int):=by omega
      clear hS hg c8 j3 l6 m3 h5 i0
      go_wp2_with fail
      go_loopw [14,15] (fun b i wr=>∃j:Nat,j<=S.length/\i=.int .i64 j/\b=.bool ((S.take j).any fun n=>decide (n∈To))/\Hid (za w7 wr)) (fun _ i _=>S.length - (intOf i).toNat)
      case atStart=>exact ⟨0,Ef _,rfl,rfl,za.refl _⟩
      case round=>
       obtain ⟨j,hj,rfl,rfl,c0⟩:=hrel;obtain ⟨wj,rfl⟩:∃wj:World,wj=wr:=⟨_,rfl⟩;have D:za w7 wj:=c0.out;by_cases b1:j<S.length
       ·have j7:(j:Int)<(S.length:Int):=by omega
        have o5:(0:Int)<=(j:Int):=by omega
        have e6:Hid (((S.take (j+1)).any fun n=>decide (n∈To))=(((S.take j).any fun n=>decide (n∈To)) || decide (S[j]∈To))):=any_take b1;obtain ⟨_,_,e,-,k6⟩:=b6.out;injection e with e1 e2 e3;subst e1 e3;obtain ⟨bs,offs,rfl,-,j5⟩:=zE k6 b1 b1;have qs:=za.rule j5;obtain ⟨n,hn⟩:=EY (S[j]);rw [<-hn] at e6 qs;obtain ⟨b,hb⟩:=EY ((S.take j).any fun n=>decide (n∈To))
        rw [<-hb] at e6⊢;clear hn hb k6 e2 j5;go_upto_region 16 with fail;refine Dr (c':=mk16) (by kernel_rfl) ?_;refine u16_wp (n:=n) (d:=decide (n∈To)) (fun W h=>q5 W (D.trans h)) (fun W h=>q2 W (D.trans h)) (fun W h=>qs W (D.trans h)) G.out b1 (zh fun W h=>d7.out n W (D.trans h)) (fun c a a' w hd h=>by obtain ⟨t,d⟩:=a;obtain ⟨t',d'⟩:=a';cases hd;exact h) fun wd i9 _ _ _ _ _ _ _ _ _ _ _ _ _ _=>?_;have l7:Hid (za w7 wd):=D.trans i9;clear i9 D;go_wp2;go_roundw
        case rel=>exact ⟨j+1,by omega,by go_num,by rw [e6.out],l7⟩
        case measure=>exact meas1 b1
       ·have j8:j=S.length:=by omega
        have j7:¬ ((j:Int)<(S.length:Int)):=by omega
        have hA:((S.take j).any fun n=>decide (n∈To))=S.any fun n=>decide (n∈To):=by rw [j8,Ec]
        rw [hA];obtain ⟨mt,k4⟩:=EY (S.any fun n=>decide (n∈To))
        rw [<-k4] at b7⊢;have i4:Hid (za w2 wj):=b8.out.trans c0.out;have m4:Hid (zk wj (fun b=>w6.heap.size<=b) (.slice A7 S.length c7) S):=b6.out.below c0.out;have d8:Hid (0<S.length↔S≠[]):=List.length_pos_iff;clear hA k4 j8 j7 hj c0 d7 q2 q5;go_upto_region 17 with fail;go_cut [90] (fun v wx=>v=.bool (offB m ch tn)/\wj=wx)
        case first=>
         cases mt with
         | true=>
          have HO:Hid (offB m ch tn=false):=by (show _=_);rw [b7.out];rfl
          go_wp2_with fail
          go_meet;exact ⟨by rw [HO.out],rfl⟩
         | false=>
          by_cases hs:0<S.length
          ·have b4:decide ((0:Int)<(S.length:Int))=true:=DU (by omega);have n7:decide (0<S.length)=true:=DU hs;have HO:Hid (offB m ch tn=true):=by (show _=_);rw [b7.out,DU (d8.out.1 hs)];rfl
           clear hs
           go_wp2_with fail
           go_meet;exact ⟨by rw [HO.out],rfl⟩
          ·have b4:decide ((0:Int)<(S.length:Int))=false:=DV (by omega);have n7:decide (0<S.length)=false:=DV hs
           have HO:Hid (offB m ch tn=decide ((c:Int)<(tn:Int))):=by
            (show _=_)
            rw [b7.out,DV (fun h=>hs (d8.out.2 h))];simp
           clear hs
           go_wp2_with fail
           go_meet;exact ⟨by rw [HO.out];simp,rfl⟩
        case rest=>
         obtain ⟨rfl,rfl⟩:=hcut
         cases d5:offB m ch tn with
         | true=>
          have HR:Hid ((zj m (fl+1) ch k).2.1=PT.node tn S []/\(((zj m (fl+1) ch k).2.2:Nat):Int)=(k:Int)+1/\(zj m (fl+1) ch k).1=0):=by
           rw [Dn a8.out O.out (cutT_at (by rw [<-E.out];exact k7) G.out d5 (fun j h1 h2=>a1.out j (by rw [E.out];exact h1) h2)),<-m8.out];exact ⟨rfl,by simp,rfl⟩
          have o:zd wj gz 41 #[.int .i64 0,.slice none 0 0,.slice none 0 0]:=HZ.out.ext i4.out;have z0:=o.cell (k:=0) rfl;have z1:=o.cell (k:=1) rfl;have z2:=o.cell (k:=2) rfl;have zf:∀j,wj.frozen? ⟨gz,j,none⟩=false:=fun j=>o.frozen j
          have K:=zh o;have m0:Hid (gz<w6.heap.size):=by (show _<_);have h1:=zc HZ.out;have h2:=a6.out.size;have h3:=n1.out;omega
          clear o d5
          go_wp2_with fail
          refine Bb (P:=fun W=>bodyPost Tryz.prog Tryz.f61 _ Exit.ret _ W) (g2:=gz) ?_ K.out;intro WZ V U hk;exact mk1_fin U (B.out.trans i4.out) M.out hk V (.mk (cs:=[]) (m4.out.weaken fun b hb=>by have h1:=m0.out;have h2:=M.out;omega) ⟨none,0,rfl,DR _,AE.nil _ _ _ _⟩ (fun i hi=>absurd hi (by simp))) HR.out rfl rfl rfl rfl
         | false=>
          have HN:Hid (∀j,c<=j->j<tn+1->offB m ch j=false):=fun j h1 h2=>by
           rcases En j tn with h | h
           ·exact a1.out j h1 h
           ·obtain rfl:j=tn:=by omega
            exact d5
          have l8:Hid (za w5 wj):=(hE.out.trans g7.out).trans D;have b3:=G.out;clear d5 D
          go_wp2_with fail
          go_roundw
          case rel=>exact ⟨tn+1,by go_num,by omega,by omega,HN,l8⟩
          case measure=>exact meas1 b3
     ·have k8:tn=m.tasks.length:=by omega
      have e4:¬ ((tn:Int)<(m.tasks.length:Int)):=by omega
      have g5:Hid (cutT m ch=none):=cutT_no (fun j h1 h2=>a1.out j (by rw [E.out];exact h1) (by omega));have a6:=zh D;clear a1 k7 n8 k8 hE;go_upto_region 20 with fail;have b9:=zd.new wk #[.int .i64 c,.slice none 0 0,.slice none 0 0] 41 (g:=wk.heap.size) rfl;have Q:za wk (wk.alloc (.cells #[.int .i64 c,.slice none 0 0,.slice none 0 0] 41)):=(za.refl wk).alloc _;generalize wk.alloc _=w8 at b9 Q⊢;obtain ⟨gp,d4⟩:=EY wk.heap.size;rw [<-d4] at b9⊢;have h4:Hid (gz<gp):=by (show _<_);rw [d4];exact Et (zc HZ.out) a6.out.size
      have d6:Hid (w2.heap.size<=gp):=by (show _<=_);rw [d4];exact a6.out.size
      have g4:=zh b9;have D:za w2 w8:=a6.out.trans Q;clear b9 d4 Q e4
      go_wp2_with fail
      refine (CT w8 (HM.out.below (B.out.trans D)) HL.out (a3.out.below (B.out.trans D)) (by have:=a5.out;omega)).mono ?_;rintro e w9 ⟨v9,rfl,c6⟩;have j1:(zu m ch).length<=400000000000:=by unfold zu;split;exact CE HL.out ch;simp
      have h7:Hid (∀n∈zu m ch,zy m (ch++[n])):=fun n hn=>by
       have:zu m ch=BK m ch:=by unfold zu;rw [if_pos (okC_of HC.out HI.out)]
       rw [this] at hn;exact .snoc HI.out hn
      have e9:=zh c6.ints;have i3:Hid (za w2 w9):=D.trans c6.ext;have h9:Hid (zd w9 gp 41 #[.int .i64 c,.slice none 0 0,.slice none 0 0]):=g4.out.ext c6.ext;have a4:Hid (zj m (fl+1) ch k=if (zJ (fun n k=>zj m fl (ch++[n]) k) (zu m ch) (k+1) []).1=0 then (0,.node (zF m ch) [] (zJ (fun n k=>zj m fl (ch++[n]) k) (zu m ch) (k+1) []).2.1,(zJ (fun n k=>zj m fl (ch++[n]) k) (zu m ch) (k+1) []).2.2) else ((zJ (fun n k=>zj m fl (ch++[n]) k) (zu m ch) (k+1) []).1,.zero,(zJ (fun n k=>zj m fl (ch++[n]) k) (zu m ch) (k+1) []).2.2)):=DC a8.out O.out g5.out;rw [<-E.out] at a4;obtain ⟨L,hL⟩:=EY (zu m ch);rw [<-hL] at h7 e9 a4 j1;obtain ⟨F,hF⟩:∃F:Int->Nat->Int×PT×Nat,F=fun n k=>zj m fl (ch++[n]) k:=⟨_,rfl⟩
      rw [<-hF] at a4;have l9:=zh hF;obtain ⟨R,hR⟩:=EY (zJ F L (k+1) []);rw [<-hR] at a4;have m7:=zh hR;obtain ⟨AL,cL,rfl,-,-⟩:=e9.out;have m1:Hid (gp<w8.heap.size):=zc g4.out;have g9:Hid (gp<w9.heap.size):=zc h9.out;have m5:Hid (k+1<=3000):=by (show _<=_);have:=O.out;omega
      have m6:Hid (AG w9 w9.heap.size (.slice none 0 0) [] []):=AG.nil _ _;have j9:(k:Int)+1=((k+1:Nat):Int):=by omega
      rw [j9];clear c6 hL hF hR D j9
      go_upto_block 4 with fail
      refine Dr (c':=mkB4) (by kernel_rfl) ?_;refine mkB4_wp HL.out HC.out HM.out a3.out HI.out HF.out a5.out IH E M HZ B r0 r1 r2 r3 r4 r5 h4 d6 j1 h7 e9 i3 h9 m1 g9 m5 l9 m7 a4 m6 (fun wq kk acc vk cs e8 n2 f5 j0 _ _ _ _ _ _ _ _ _ _ _ _ _ _ _ _ _ _ _ _ _ _ _ _ _ _ _ _ _ _ _ _ _ _ _ _ _=>?_) (fun c a a' w hd h=>by obtain ⟨t,d⟩:=a;obtain ⟨t',d'⟩:=a';cases hd;exact h) (fun a W h=>h);have g8:Hid (za w2 wq):=chg_ext2 i3.out n2.out d6.out
      have HR:Hid ((zj m (fl+1) ch k).2.1=PT.node c [] acc/\(((zj m (fl+1) ch k).2.2:Nat):Int)=(kk:Int)/\(zj m (fl+1) ch k).1=0):=by
       rw [a4.out,e8.out,if_pos rfl];exact ⟨rfl,rfl,rfl⟩
      have o:zd wq gz 41 #[.int .i64 0,.slice none 0 0,.slice none 0 0]:=HZ.out.ext g8.out;have z0:=o.cell (k:=0) rfl;have z1:=o.cell (k:=1) rfl;have z2:=o.cell (k:=2) rfl;have zf:∀j,wq.frozen? ⟨gz,j,none⟩=false:=fun j=>o.frozen j
      have K:=zh o;obtain ⟨Ak,ck,evk,-,-⟩:=Ae.of_own j0.out.own;subst evk;have p0:=f5.out.cell (k:=0) rfl;have p1:=f5.out.cell (k:=1) rfl;have p2:=f5.out.cell (k:=2) rfl;clear o
      go_wp2_with fail
      refine Bb (P:=fun W=>bodyPost Tryz.prog Tryz.f61 _ Exit.ret _ W) (g2:=gz) ?_ K.out;intro WZ V U hk;exact mk1_fin U (B.out.trans g8.out) M.out hk V ((j0.out.kids c).wk fun b hb _=>by have h1:=h4.out;have h2:=g9.out;have h3:=M.out;omega) HR.out rfl rfl rfl rfl
theorem makeP_zero29 (h:(AP m).1≠0):(AP m).2=.zero:=by
 unfold AP at h⊢
 split
 ·rename_i o
  rw [if_pos o] at h;exact DE _ _ _ h
 ·rfl
theorem vmk_fin {r:Int×PT} {p:PT} (G:Below gz wq WZ) (M:za w wq) (J:w.heap.size<=gz) (K:∀k,k<wq.heap.size->k≠gz->WZ.heap[k]?=wq.heap[k]?) (o:zd WZ gz 41 #[x,y,z]) (hp:zM wq (fun b=>w.heap.size<=b/\b≠gz) (.agg #[x,y,z]) p)
  (L:r=(n,p)) (D:a.tmps[2]?=some (.pointer (some ⟨gz,0,none⟩))) (E:a.tmps[3]?=some (.int .i64 n)) (I:a.defers=[]):
  bodyPost Tryz.prog Tryz.f20 (fun e w'=>∃v',e=.returned (.tuple #[v',.int .i64 r.1])/\za w w'/\zM w' (fun b=>w.heap.size<=b) v' r.2) Exit.ret a WZ:=by
 have c0:=o.cell (k:=0) rfl;have c1:=o.cell (k:=1) rfl;have c2:=o.cell (k:=2) rfl;have e:a.tmps.getD 2 undef=.pointer (some ⟨gz,0,none⟩):=by rw [Array.getD_eq_getD_getElem?,D];rfl
 have e3:a.tmps.getD 3 undef=.int .i64 n:=by rw [Array.getD_eq_getD_getElem?,E];rfl
 subst L;refine EL (v:=.tuple #[.agg #[x,y,z],.int .i64 n]) (by simp [results,Tryz.results20,go_sem,D,E,e,e3,c0,c1,c2]) I ⟨_,rfl,?_,?_⟩
 ·exact below_le M G J
 ·exact hp.keepW (fun b o B=>K b B o.2) (fun b o=>o.1)
theorem vMake_calls {v:Value} (w:World) (hm:zt w ok v m) (hl:Lens m):Calls Tryz.prog 20 #[v] w fun e w'=>∃v',e=.returned (.tuple #[v',.int .i64 (AP m).1])/\za w w'/\zM w' (fun b=>w.heap.size<=b) v' (AP m).2:=by
 have HM:=zh hm;have HL:=zh hl;obtain ⟨Af,cf,Au,cu,At,ct,rfl,-,-,-⟩:=hm.parts;obtain ⟨X,hX⟩:=EY (AP m);rw [<-hX];have V:=zh hX;clear hm hl hX
 go_enter Tryz.func20,Tryz.ntmps20
 go_upto_region 1 with fail;obtain ⟨a6,r0,r1,r2,r3,r4,r5⟩:=box6 w (.int .i64 m.w) (.int .i64 m.h) (.int .i64 m.l) (.slice Af m.free.length cf) (.slice Au m.up.length cu) (.slice At m.tasks.length ct);have a9:(w.alloc (.cells #[.int .i64 m.w,.int .i64 m.h,.int .i64 m.l,.slice Af m.free.length cf,.slice Au m.up.length cu,.slice At m.tasks.length ct] 32)).heap.size=w.heap.size+1:=by simp
 generalize w.alloc _=w1 at a6 r0 r1 r2 r3 r4 r5 a9⊢;have o:=zd.new w1 #[.int .i64 0,.slice none 0 0,.slice none 0 0] 41 (g:=w1.heap.size) rfl;have a0:za w1 (w1.alloc (.cells #[.int .i64 0,.slice none 0 0,.slice none 0 0] 41)):=(za.refl w1).alloc _;generalize w1.alloc _=w2 at o a0⊢;rw [a9] at o;obtain ⟨gz,b5⟩:∃g,g=w.heap.size+1:=⟨_,rfl⟩;obtain ⟨gm,a8⟩:∃g,g=w.heap.size:=⟨_,rfl⟩;rw [<-a8] at r0 r1 r2 r3 r4 r5;rw [<-b5] at o⊢;rw [<-a8];have a1:Hid (w.heap.size<=gz):=by show _<=_;omega
 have HZ:=zh o;have G:=zh a0;have I:=zh (a6.trans a0);have r0:=fun W h=>r0 W (G.out.trans h)
 have r1:=fun W h=>r1 W (G.out.trans h)
 have r2:=fun W h=>r2 W (G.out.trans h)
 have r3:=fun W h=>r3 W (G.out.trans h)
 have r4:=fun W h=>r4 W (G.out.trans h)
 have r5:=fun W h=>r5 W (G.out.trans h)
 clear b5 a8 a6 a0 a9 o;have hx:za w2 w2:=za.refl w2
 go_wp2_with fail
 refine (Ce w2 (HM.out.below I.out) HL.out).mono ?_;rintro e w3 ⟨rfl,b4⟩;have E:za w2 w3:=b4;obtain ⟨ck,a7⟩:∃c,c=Bq m:=⟨_,rfl⟩;rw [<-a7];have U:=zh a7;clear b4 a7 hx;by_cases h0:ck=0
 ·have c6:(ck != 0)=false:=by simp [h0]
  have HC:Hid (Bq m=0):=by (show _=_);rw [<-U.out];exact h0
  have a2:=zh (make1_calls HL.out HC.out (m.n.toNat+2) [] 0 _ (fun _=>True) _ (.slice none 0 0) w3 (HM.out.below (I.out.trans E)) (zk.nil _ _) .nil (by simp) (by omega));obtain ⟨r,hr⟩:=EY (zj m (m.n.toNat+2) [] 0);rw [<-hr] at a2;have J:Hid (X=(r.1,r.2.1)):=by (show _=_);rw [V.out,hr];unfold AP;rw [if_pos HC.out]
  clear h0 hr U
  go_wp2_with fail
  refine a2.out.mono ?_;rintro e w4 ⟨v4,rfl,a4,a5⟩;obtain ⟨As,cs,Ak,ck',rfl,-⟩:=a5.form;have b2:Hid (za w2 w4):=E.trans a4;have b7:Hid (gz<w3.heap.size/\gz<w4.heap.size):=⟨zc (HZ.out.ext E),zc (HZ.out.ext (E.trans a4))⟩;have b0:=zh a5;have b8:Hid (w.heap.size<=w3.heap.size):=(I.out.trans E).size;clear a4 a5 a2 E;by_cases K:r.1=0
  ·have c8:(r.1 != 0)=false:=by simp [K]
   have a3:Hid (X=(0,r.2.1)):=by (show _=_);rw [J.out,K]
   clear K;go_upto_region 5 with fail;have B:=zd.new w4 #[.int .i64 r.2.1.task,.slice As r.2.1.side.length cs,.slice Ak r.2.1.kids.length ck'] 41 (g:=w4.heap.size) rfl;have D:za w4 (w4.alloc (.cells #[.int .i64 r.2.1.task,.slice As r.2.1.side.length cs,.slice Ak r.2.1.kids.length ck'] 41)):=(za.refl w4).alloc _;generalize w4.alloc _=w5 at B D⊢;generalize w4.heap.size=g5 at B⊢;have y0:=B.cell (k:=0) rfl;have y1:=B.cell (k:=1) rfl;have y2:=B.cell (k:=2) rfl;have M:Hid (za w2 w5):=b2.out.trans D;have b1:=zh (b0.out.ext D);have o:zd w5 gz 41 #[.int .i64 0,.slice none 0 0,.slice none 0 0]:=HZ.out.ext M.out;have z0:=o.cell (k:=0) rfl;have z1:=o.cell (k:=1) rfl;have z2:=o.cell (k:=2) rfl;have zf:∀j,w5.frozen? ⟨gz,j,none⟩=false:=fun j=>o.frozen j
   have L:=zh o;clear o B D
   go_wp2_with fail
   refine Bb (P:=fun W=>bodyPost Tryz.prog Tryz.f20 _ Exit.ret _ W) (g2:=gz) ?_ L.out;intro WZ Q O hk;exact vmk_fin O (I.out.trans M.out) a1.out hk Q (b1.out.wk fun b hb _=>by have:=b7.out;have:=b8.out;omega) a3.out rfl rfl rfl
  ·have c8:(r.1 != 0)=true:=by simp [K]
   have a3:Hid (X=(r.1,PT.zero)):=by
    (show _=_)
    have h:=makeP_zero29 (m:=m) (by rw [<-V.out,J.out];exact K);rw [<-V.out,J.out] at h;rw [J.out];exact congrArg (Prod.mk r.1) h
   clear K;go_upto_region 5 with fail;have B:=zd.new w4 #[.int .i64 r.2.1.task,.slice As r.2.1.side.length cs,.slice Ak r.2.1.kids.length ck'] 41 (g:=w4.heap.size) rfl;have D:za w4 (w4.alloc (.cells #[.int .i64 r.2.1.task,.slice As r.2.1.side.length cs,.slice Ak r.2.1.kids.length ck'] 41)):=(za.refl w4).alloc _;generalize w4.alloc _=w5 at B D⊢;generalize w4.heap.size=g5 at B⊢;have y0:=B.cell (k:=0) rfl;have y1:=B.cell (k:=1) rfl;have y2:=B.cell (k:=2) rfl;have M:Hid (za w2 w5):=b2.out.trans D;have b1:=zh (b0.out.ext D);have o:zd w5 gz 41 #[.int .i64 0,.slice none 0 0,.slice none 0 0]:=HZ.out.ext M.out;have z0:=o.cell (k:=0) rfl;have z1:=o.cell (k:=1) rfl;have z2:=o.cell (k:=2) rfl;have zf:∀j,w5.frozen? ⟨gz,j,none⟩=false:=fun j=>o.frozen j
   have L:=zh o;clear o B D
   go_wp2_with fail
   refine Bb (P:=fun W=>bodyPost Tryz.prog Tryz.f20 _ Exit.ret _ W) (g2:=gz) ?_ L.out;intro WZ Q O hk;exact vmk_fin O (I.out.trans M.out) a1.out hk Q (zM.zero _ _) a3.out rfl rfl rfl
 ·have c6:(ck != 0)=true:=by simp [h0]
  have J:Hid (X=(ck,PT.zero)):=by (show _=_);rw [V.out,U.out];unfold AP;rw [if_neg (by rw [<-U.out];exact h0)]
  have o:zd w3 gz 41 #[.int .i64 0,.slice none 0 0,.slice none 0 0]:=HZ.out.ext E;have z0:=o.cell (k:=0) rfl;have z1:=o.cell (k:=1) rfl;have z2:=o.cell (k:=2) rfl;have zf:∀j,w3.frozen? ⟨gz,j,none⟩=false:=fun j=>o.frozen j
  have L:=zh o;have b9:=zh E;clear o h0
  go_wp2_with fail
  refine Bb (P:=fun W=>bodyPost Tryz.prog Tryz.f20 _ Exit.ret _ W) (g2:=gz) ?_ L.out;intro WZ Q O hk;exact vmk_fin O (I.out.trans b9.out) a1.out hk Q (zM.zero _ _) J.out rfl rfl rfl
end
section
open Go.RowKit
mutual
def PT.In:PT->Prop
 | .node t s ks=>I64 t/\(∀x∈s,I64 x)/\s.length<=9223372036854775807/\ks.length<=9223372036854775807/\PT.InL ks
def PT.InL:List PT->Prop
 | []=>True
 | k :: ks=>k.In/\PT.InL ks
end
theorem inL_mem:∀{ks:List PT},PT.InL ks->∀k∈ks,k.In
 | [],_,k,hk=>by cases hk
 | a :: ks,h,k,hk=>by
  unfold PT.InL at h;rcases EG.1 hk with rfl | hk
  ·exact h.1
  ·exact inL_mem h.2 k hk
def Ad:Nat->PT->PT
 | 0,.node t s _=>.node t (s.take 20) []
 | n+1,.node t s ks=>.node t (s.take 20) ((ks.take 4).map (Ad n))
def capF:Nat->Nat
 | 0=>1
 | n+1=>1+4*capF n
theorem sizeL_map {f:PT->PT} {c:Nat} (hf:∀k,(f k).size<=c):∀(ks:List PT),PT.sizeL (ks.map f)<=ks.length*c
 | []=>by simp [PT.sizeL]
 | k :: ks=>by
  have:=hf k;have:=sizeL_map hf ks;simp only [List.map_cons,PT.sizeL,EW,Nat.add_mul,Nat.one_mul];omega
theorem few_size:∀(n:Nat) (p:PT),(Ad n p).size<=capF n
 | 0,.node t s ks=>by simp [Ad,PT.size,PT.sizeL,capF]
 | n+1,.node t s ks=>by
  have h:=sizeL_map (few_size n) (ks.take 4);have o:(ks.take 4).length<=4:=by simp;omega
  have B:=Nat.mul_le_mul_right (capF n) o;unfold Ad PT.size capF;omega
theorem few_lenN:∀(n:Nat) (p:PT),(Ad n p).LenN 20
 | 0,.node t s ks=>by
  unfold Ad PT.LenN;exact ⟨by simp;omega,by simp,BG fun k o=>absurd o (EN)⟩
 | n+1,.node t s ks=>by
  unfold Ad PT.LenN;refine ⟨by simp;omega,by simp;omega,BG fun k o=>?_⟩;obtain ⟨q,B,rfl⟩:=EP.1 o;exact few_lenN n q
end
end Go.Proofs.YtjomnbdjajjgfaaGreatDoor
