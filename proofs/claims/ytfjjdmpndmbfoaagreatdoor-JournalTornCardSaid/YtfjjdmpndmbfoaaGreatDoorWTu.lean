import Derived.Test.YtfjjdmpndmbfoaaGreatDoorWTt
set_option linter.unusedVariables false
set_option linter.unusedSimpArgs false
set_option maxRecDepth 100000
set_option maxHeartbeats 16000000
namespace Go.Proofs.YtfjjdmpndmbfoaaGreatDoor
variable {x:JS} {ns:List ByteArray} {id out s sg:List UInt8} {m:MZ} {B g gs:Nat} {K X ok:Nat->Prop} {r:RS} {v:Value} {w' w0 wr:World}
section
open Go.RowKit Go.Shelf
attribute [local go_sem ↓] Go.wp_at_zero Go.wp_at_succ
attribute [local go_sem] Oper.semAt_some
theorem mz_box (w:World) (m:MZ) (Af:Option Addr) (cf:Nat) (Au:Option Addr) (cu:Nat) (At:Option Addr) (ct:Nat):zc w (w.alloc (.cells (mzc m Af cf Au cu At ct) 29))/\
  (∀W,zc (w.alloc (.cells (mzc m Af cf Au cu At ct) 29)) W->W.cell? ⟨w.heap.size,0,none⟩=some (.int .i64 m.w))/\(∀W,zc (w.alloc (.cells (mzc m Af cf Au cu At ct) 29)) W->W.cell? ⟨w.heap.size,1,none⟩=some (.int .i64 m.h))/\
  (∀W,zc (w.alloc (.cells (mzc m Af cf Au cu At ct) 29)) W->W.cell? ⟨w.heap.size,2,none⟩=some (.int .i64 m.l))/\(∀W,zc (w.alloc (.cells (mzc m Af cf Au cu At ct) 29)) W->W.cell? ⟨w.heap.size,3,none⟩=some (.slice Af m.free.length cf))/\
  (∀W,zc (w.alloc (.cells (mzc m Af cf Au cu At ct) 29)) W->W.cell? ⟨w.heap.size,4,none⟩=some (.slice Au m.up.length cu))/\(∀W,zc (w.alloc (.cells (mzc m Af cf Au cu At ct) 29)) W->W.cell? ⟨w.heap.size,5,none⟩=some (.slice At m.tasks.length ct)):=by
 obtain ⟨r0,r1,r2,r3,r4,r5⟩:=zw (zg.new w (mzc m Af cf Au cu At ct) 29 (g:=w.heap.size) rfl);exact ⟨(zc.refl w).alloc _,zc.rule r0,zc.rule r1,zc.rule r2,zc.rule r3,zc.rule r4,zc.rule r5⟩
theorem jBegin_calls (w:World) (hv:zq w) (hm:BD w ok v m ns) (hs:Small m ns) (hl:Lens m) (hc:BS m=0):
  Calls Tryz.prog 8 #[v] w fun e w'=>e=.returned (.tuple #[.string ⟨(zv (Dl (AG m ns))).toArray⟩,.int .i64 0])/\zc w w':=by
 have HM:=zh hm;have HV:=zh hv;have HS:=zh hs;have HL:=zh hl;have HC:=zh hc;obtain ⟨f,u,t,rfl,⟨_,⟨Af,cf,rfl,-,-⟩,-⟩,⟨Au,cu,rfl,-,-⟩,⟨-,_,⟨At,ct,rfl,-,-⟩,-⟩⟩:=hm;obtain ⟨id,hid⟩:∃x,x=Dl (AG m ns):=⟨_,rfl⟩;rw [<-hid];have D:id.length=8:=by rw [hid];exact Bd _
 have O:=zh hid;have Q:=zh D;clear hv hs hl hc hid D
 go_enter Tryz.func8,Tryz.ntmps8
 go_upto_region 1 with fail;obtain ⟨o,r0,r1,r2,r3,r4,r5⟩:=mz_box w m Af cf Au cu At ct;simp only [mzc] at o r0 r1 r2 r3 r4 r5;generalize w.alloc _=w2 at o r0 r1 r2 r3 r4 r5⊢;have d:=zh o;have a9:zc w2 w2:=zc.refl w2;have G:Hid (Calls Tryz.prog 27 #[.agg #[.int .i64 m.w,.int .i64 m.h,.int .i64 m.l,.slice Af m.free.length cf,.slice Au m.up.length cu,.slice At m.tasks.length ct]] w2 fun e w'=>e=.returned (.int .i64 0)/\zc w2 w'):=by have h:=By w2 (HM.out.maze.below d.out) HL.out;rw [HC.out] at h;exact h
 clear o
 go_wp2_with fail
 refine G.out.mono ?_;rintro e w3 ⟨rfl,J⟩;have E:zc w2 w3:=J;have V:Hid (∀W,zc w2 W->Calls Tryz.prog 29 #[.agg #[.int .i64 m.w,.int .i64 m.h,.int .i64 m.l,.slice Af m.free.length cf,.slice Au m.up.length cu,.slice At m.tasks.length ct]] W fun e w'=>e=.returned (.string ⟨id.toArray⟩)/\zc W w'):=fun W h=>by have:=Dk W (HV.out.ext (d.out.trans h)) (HM.out.below (d.out.trans h)) HS.out;rw [<-O.out] at this;exact this
 clear J G
 go_wp2_with fail
 refine (V.out _ E).mono ?_;rintro e w4 ⟨rfl,M⟩;have I:Hid (zc w w4):=(d.out.trans E).trans M;clear M V E
 go_wp2_with fail
 refine (CL w4 (HV.out.ext I.out) (by have:=Q.out;omega)).mono ?_;rintro e w5 ⟨rfl,U⟩
 go_wp2_with fail
 go_ret2
 exact ⟨rfl,I.out.trans U⟩
def ReadPost (w:World) (m:MZ) (id s:List UInt8) (e:Ending) (w':World):Prop:=
 ∃vc x er,e=.returned (.tuple #[vc,.int .i64 x.steps,.int .i64 x.fin,.int .i64 er])/\zc w w'/\zl w' (fun b=>w.heap.size<=b) vc x.ch/\(zE m (zv id) id s=none->er=4)/\(∀y,zE m (zv id) id s=some y->er=0/\x=y)
theorem jRead_calls (w:World) (hv:zq w) (hm:BD w ok v m ns) (hs:Small m ns) (hl:Lens m) (hc:BS m=0) (O:s.length<=40000000):
  Calls Tryz.prog 13 #[v,.string ⟨s.toArray⟩] w (ReadPost w m (Dl (AG m ns)) s):=by
 have HM:=zh hm;obtain ⟨f,u,t,rfl,⟨_,⟨Af,cf,rfl,-,-⟩,-⟩,⟨Au,cu,rfl,-,-⟩,⟨-,_,⟨At,ct,rfl,-,-⟩,-⟩⟩:=hm;have HO:Hid (∀W,zc w W->Calls Tryz.prog 30 #[.agg #[.int .i64 m.w,.int .i64 m.h,.int .i64 m.l,.slice Af m.free.length cf,.slice Au m.up.length cu,.slice At m.tasks.length ct],.string ⟨s.toArray⟩] W (OpenPost W m (Dl (AG m ns)) s)):=fun W h=>Ds W (hv.ext h) (HM.out.below h) hs hl hc O
 clear hv hs hl hc O
 go_enter Tryz.func13,Tryz.ntmps13
 go_upto_region 1 with fail;obtain ⟨E,r0,r1,r2,r3,r4,r5⟩:=mz_box w m Af cf Au cu At ct;simp only [mzc] at E r0 r1 r2 r3 r4 r5;generalize w.alloc _=w2 at E r0 r1 r2 r3 r4 r5⊢;have G:=zh E;have a3:zc w2 w2:=zc.refl w2;clear E
 go_wp2_with fail
 refine (HO.out _ G.out).mono ?_;rintro e w3 ⟨vc,x,er,rfl,J,M,h1,h2⟩;have U:=zh M;have HR:=zh (And.intro h1 h2);have V:Hid (zc w w3):=G.out.trans J;obtain ⟨Ac,cc,rfl,-,-⟩:=M;clear h1 h2 J;simp only [jsc];go_upto_region 2 with fail;have hB:=zg.new w3 #[.slice Ac x.ch.length cc,.int .i64 x.steps,.int .i64 x.fin,.string ⟨x.sg.toArray⟩] 77 (g:=w3.heap.size) rfl;have I:zc w3 (w3.alloc (.cells #[.slice Ac x.ch.length cc,.int .i64 x.steps,.int .i64 x.fin,.string ⟨x.sg.toArray⟩] 77)):=(zc.refl w3).alloc _;generalize w3.alloc _=w4 at hB I⊢;obtain ⟨k0,k1,k2,k3⟩:=zJ hB;have k0:=zc.rule k0;have k1:=zc.rule k1;have k2:=zc.rule k2;have Q:=zh I;have hx:zc w4 w4:=zc.refl w4;clear hB I k3 r0 r1 r2 r3 r4 r5 a3;refine wp_dark (fun Q' D a2=>?_) (fun c a a' w hd h=>by obtain ⟨t,d⟩:=a;obtain ⟨t',d'⟩:=a';cases hd;exact h);refine AK (S:=(fun W=>zc w4 W)) AC (hx.drew) fun zH=>?_;generalize w4.drew=wd at zH⊢;refine ze (i:=0) (v:=?v1) rfl (by kernel_rfl) (by kernel_rfl) (by kernel_rfl) (by kernel_rfl) (fun _ _ _ h=>D _ _ _ _ (by rfl) h) (Or.inl ⟨?w1,?y1⟩) zH ?r1
 case w1=>rfl
 case y1=>(intro w o;go_simp;try with_reducible rfl)
 simp only [zd,DB];refine ze (i:=1) (v:=?v2) rfl (by kernel_rfl) (by kernel_rfl) (by kernel_rfl) (by kernel_rfl) (fun _ _ _ h=>D _ _ _ _ (by rfl) h) (Or.inl ⟨?w2,?y2⟩) zH ?r2
 case w2=>rfl
 case y2=>(intro w o;go_simp;try with_reducible rfl)
 simp only [zd,DB];refine ze (i:=2) (v:=?v3) rfl (by kernel_rfl) (by kernel_rfl) (by kernel_rfl) (by kernel_rfl) (fun _ _ _ h=>D _ _ _ _ (by rfl) h) (Or.inl ⟨?w3,?y3⟩) zH ?r3
 case w3=>rfl
 case y3=>(intro w o;go_simp;try with_reducible rfl)
 simp only [zd,DB];refine ze (i:=3) (v:=?v4) rfl (by kernel_rfl) (by kernel_rfl) (by kernel_rfl) (by kernel_rfl) (fun _ _ _ h=>D _ _ _ _ (by rfl) h) (Or.inl ⟨?w4,?y4⟩) zH ?r4
 case w4=>rfl
 case y4=>(intro w o;go_simp;try with_reducible rfl)
 simp only [zd,DB];refine ze (i:=4) (v:=?v5) rfl (by kernel_rfl) (by kernel_rfl) (by kernel_rfl) (by kernel_rfl) (fun _ _ _ h=>D _ _ _ _ (by rfl) h) (Or.inl ⟨?w5,?y5⟩) zH ?r5
 case w5=>rfl
 case y5=>(intro w o;go_simp;try with_reducible rfl)
 simp only [zd,DB];refine ze (i:=5) (v:=?v6) rfl (by kernel_rfl) (by kernel_rfl) (by kernel_rfl) (by kernel_rfl) (fun _ _ _ h=>D _ _ _ _ (by rfl) h) (Or.inl ⟨?w6,?y6⟩) zH ?r6
 case w6=>rfl
 case y6=>(intro w o;go_simp;try with_reducible rfl)
 simp only [zd,DB];refine ze (i:=6) (v:=?v7) rfl (by kernel_rfl) (by kernel_rfl) (by kernel_rfl) (by kernel_rfl) (fun _ _ _ h=>D _ _ _ _ (by rfl) h) (Or.inl ⟨?w7,?y7⟩) zH ?r7
 case w7=>rfl
 case y7=>(intro w o;go_simp;try with_reducible rfl)
 simp only [zd,DB];refine ze (i:=7) (v:=?v8) rfl (by kernel_rfl) (by kernel_rfl) (by kernel_rfl) (by kernel_rfl) (fun _ _ _ h=>D _ _ _ _ (by rfl) h) (Or.inl ⟨?w8,?y8⟩) zH ?r8
 case w8=>rfl
 case y8=>(intro w o;go_simp;try with_reducible rfl)
 simp only [zd,DB];refine ze (i:=8) (v:=?v9) rfl (by kernel_rfl) (by kernel_rfl) (by kernel_rfl) (by kernel_rfl) (fun _ _ _ h=>D _ _ _ _ (by rfl) h) (Or.inl ⟨?w9,?y9⟩) zH ?r9
 case w9=>rfl
 case y9=>(intro w o;go_simp;try with_reducible rfl)
 simp only [zd,DB];refine ze (i:=9) (v:=?v10) rfl (by kernel_rfl) (by kernel_rfl) (by kernel_rfl) (by kernel_rfl) (fun _ _ _ h=>D _ _ _ _ (by rfl) h) (Or.inl ⟨?w10,?y10⟩) zH ?r10
 case w10=>rfl
 case y10=>(intro w o;go_simp;try with_reducible rfl)
 simp only [zd,DB];refine zt (rs:=[10]) (by kernel_rfl) (by simp) ?_;refine zj.last rfl (by kernel_rfl) fun K hK=>?_;go_simp;have a0:Hid (zc w4 _):=zH;go_simp;refine hK.out _ _ ?_;clear hK K;refine Bh (by kernel_rfl) ?_ _;subst a2;clear hx k0 k1 k2;go_wp2;have hE:=Q.out.trans a0.out;refine Ev (by simp [results,Tryz.results13,go_sem]) rfl ⟨_,x,er,rfl,V.out.trans hE,(U.out.below hE).weaken fun b hb=>DG G.out.size hb,HR.out.1,HR.out.2⟩
theorem endJ_b (d:JSb s x) (o:loadE m x.ch x.steps=0):JSb s (endJ m s x)/\loadE m (endJ m s x).ch (endJ m s x).steps=0:=
 allJ_b _ _ _ _ d o (allJ_last m s s.length x)
theorem open_b (D:BS m=0) (hid:id.length=8) (h:zE m (zv id) id s=some x):JSb s x/\loadE m x.ch x.steps=0/\0<=x.steps:=by
 unfold zE at h
 split at h
 ·rename_i hp
  injection h with h;have h0:loadE m (j0 id).ch (j0 id).steps=0:=(rinv_load (m:=m)).loadE D;have o:JSb s (j0 id):=⟨hp.length_le,(show Cp 0 from ⟨by decide,by decide⟩),hid,(fun n E=>by cases E),DS _⟩;obtain ⟨h1,d⟩:=endJ_b o h0;have e:x=endJ m s (j0 id):=h.symm;rw [<-e] at h1 d;exact ⟨h1,d,(BJ d).2.st⟩
 ·cases h
theorem recB_le {ch:List Int} {st:Int} (I:sg.length<=1000) (h:∀x∈ch,Cp x) (d:Cp st) (G:ch.length<=300):(zU sg ch st).length<=7000:=by
 have h1:=(body_len h d).1;have o:=Cb (s:=Bb ch st) (by omega);have D:=Cb (s:=zT sg ch st) (by rw [AT];omega);have E:=AT sg ch st;unfold zU;rw [DM];omega
theorem run_i64 (g:zX m) (h:RInv m r):(∀x∈r.ch,Cp x)/\r.ch.length<=300:=by
 have d:=(h.ch.range g).1;have D:m.n<=300:=g.1.n1;exact ⟨fun x o=>by have:=d x o;exact ⟨by omega,by omega⟩,h.ch.len300 g⟩
structure RunI (w0 wr:World) (X K:Nat->Prop) (g B gs:Nat) (m:MZ) (r:RS) (out sg:List UInt8):Prop where
 rt:OneX w0 wr X g m r
 bu:BuiK K B (Lib.byteCells out) wr
 sl:CK wr gs sg
 kx:∀k,K k->¬ X k/\w0.heap.size<=k/\k≠gs/\k<wr.heap.size
 gx:¬ X gs/\w0.heap.size<=gs
theorem RunI.ext {w0 wr:World} {X K:Nat->Prop} {g B gs:Nat} {m:MZ} {r:RS} {out sg:List UInt8} (h:RunI w0 wr X K g B gs m r out sg):zc w0 wr:=h.rt.ext
theorem RunI.more {w0 wr w':World} {X K:Nat->Prop} {g B gs:Nat} {m:MZ} {r:RS} {out sg:List UInt8} (h:RunI w0 wr X K g B gs m r out sg) (o:zc wr w'):RunI w0 w' X K g B gs m r out sg:=
 ⟨h.rt.more o,h.bu.chg (zk.of_ext (X:=fun _=>False) o) (fun _ _ h=>h),h.sl.ext o,fun k D=>by obtain ⟨a,b,c,d⟩:=h.kx k D;exact ⟨a,b,c,Ef d o.size⟩,h.gx⟩
theorem RunI.step {w0 wr:World} {X K:Nat->Prop} {g B gs:Nat} {m:MZ} {r:RS} {out sg:List UInt8} (h:RunI w0 wr X K g B gs m r out sg) (n:Nat) (G:n<=1000000) (J:r.steps<=3000000000000000000):
  Calls Tryz.prog 17 #[.pointer (some ⟨g,0,none⟩),.int .i64 n] wr fun e w'=>e=.returned (.bool (RS.run m n r).done)/\∃X',RunI w0 w' X' K g B gs m (RS.run m n r) out sg:=by
 refine (h.rt.step n G J).mono ?_;rintro e w' ⟨rfl,I,D⟩;refine ⟨rfl,_,I,h.bu.chg D (fun k E=>(h.kx k E).1),D.blk h.sl h.gx.1,fun k E=>?_,?_,h.gx.2⟩
 ·obtain ⟨a,b,c,d⟩:=h.kx k E;exact ⟨fun o=>o.elim a (fun o=>by omega),b,c,Ef d D.size⟩
 ·have:=za h.sl;exact fun o=>o.elim h.gx.1 (fun o=>by omega)
theorem RunI.seal {sg':List UInt8} (h:RunI w0 wr X K g B gs m r out sg) (D:zk (·=gs) wr w') (E:CK w' gs sg'):RunI w0 w' X K g B gs m r out sg':=
 ⟨h.rt.other (fun k e=>by have:=h.gx.2;omega) (fun k o e=>h.gx.1 (by have e:k=gs:=e;rw [<-e];exact o)) D,h.bu.chg D (fun k o=>(h.kx k o).2.2.1),E,fun k o=>by obtain ⟨a,b,c,d⟩:=h.kx k o;exact ⟨a,b,c,Ef d D.size⟩,h.gx⟩
theorem RunI.write {out':List UInt8} (h:RunI w0 wr X K g B gs m r out sg) (o:zk K wr w') (E:BuiK (fun b=>K b\/(wr.heap.size<=b/\b<w'.heap.size)) B (Lib.byteCells out') w'):
  RunI w0 w' X (fun b=>K b\/(wr.heap.size<=b/\b<w'.heap.size)) g B gs m r out' sg:=
 ⟨h.rt.other (fun k hk=>(h.kx k hk).2.1) (fun k hk D=>(h.kx k D).1 hk) o,E,o.blk h.sl (fun D=>(h.kx gs D).2.2.1 rfl),fun k hk=>by
  have I:=h.rt.ext.size;have G:=za h.sl;rcases hk with hk | hk
  ·obtain ⟨a,b,c,d⟩:=h.kx k hk;exact ⟨a,b,c,Ef d o.size⟩
  ·exact ⟨fun J=>by have:=h.rt.rt.xb k J;omega,by omega,by omega,hk.2⟩,h.gx⟩
def CM (w:World) (m:MZ) (id s:List UInt8) (n:Int) (e:Ending) (w':World):Prop:=
 e=.returned (.tuple #[.string ⟨(BC m (zv id) id s n).1.toArray⟩,.bool (BC m (zv id) id s n).2.1,.int .i64 (BC m (zv id) id s n).2.2])/\zc w w'
theorem jRun_calls (n:Int) (w:World) (hv:zq w) (hm:BD w ok v m ns) (hs:Small m ns) (hl:Lens m) (hc:BS m=0) (g6:s.length<=40000000) (hn:-1000<=n/\n<=1000)
  (hx:∀x,zE m (zv (Dl (AG m ns))) (Dl (AG m ns)) s=some x->x.steps<=20000):
  Calls Tryz.prog 9 #[v,.string ⟨s.toArray⟩,.int .i64 n] w (CM w m (Dl (AG m ns)) s n):=by
 have HM:=zh hm;have HV:=zh hv;have HL:=zh hl;have HC:=zh hc;have f3:=zh g6;have HN:=zh hn;obtain ⟨f,u,t,rfl,⟨_,⟨Af,cf,rfl,-,-⟩,-⟩,⟨Au,cu,rfl,-,-⟩,⟨-,_,⟨At,ct,rfl,-,-⟩,-⟩⟩:=hm;have HO:Hid (∀W,zc w W->Calls Tryz.prog 30 #[.agg #[.int .i64 m.w,.int .i64 m.h,.int .i64 m.l,.slice Af m.free.length cf,.slice Au m.up.length cu,.slice At m.tasks.length ct],.string ⟨s.toArray⟩] W (OpenPost W m (Dl (AG m ns)) s)):=fun W h=>Ds W (hv.ext h) (HM.out.below h) hs hl hc g6
 have b1:(Dl (AG m ns)).length=8:=Bd _;obtain ⟨id,hid⟩:∃x,x=Dl (AG m ns):=⟨_,rfl⟩;rw [<-hid] at HO hx b1⊢;have m6:=zh b1;have HX:=zh hx;clear hv hs hl hc g6 hn hx hid b1
 go_enter Tryz.func9,Tryz.ntmps9
 go_upto_region 1 with fail;obtain ⟨c6,r0,r1,r2,r3,r4,r5⟩:=mz_box w m Af cf Au cu At ct;simp only [mzc] at c6 r0 r1 r2 r3 r4 r5;generalize w.alloc _=w2 at c6 r0 r1 r2 r3 r4 r5⊢;have b9:=zh c6;have o8:zc w2 w2:=zc.refl w2;clear c6
 go_wp2_with fail
 refine (HO.out _ b9.out).mono ?_;rintro e w3 ⟨vc,x,er,rfl,c7,j5,h1,h2⟩;have m4:=zh j5;have d5:zc w2 w3:=c7;obtain ⟨Ac,cc,rfl,-,-⟩:=j5;simp only [jsc];have Q:zc w3 (w3.alloc (.cells #[.slice Ac x.ch.length cc,.int .i64 x.steps,.int .i64 x.fin,.string ⟨x.sg.toArray⟩] 77)):=(zc.refl w3).alloc _
 cases ho:zE m (zv id) id s with
 | none=>
  have HR:Hid (BC m (zv id) id s n=([],false,4)):=by (show _=_);unfold BC;rw [ho]
  have n5:=h1 ho;subst n5;have J:=zh ((b9.out.trans d5).trans Q);clear h1 h2 c7 Q ho
  go_wp2_with fail
  refine Ev (by simp [results,Tryz.results9,go_sem];rfl) rfl ⟨by rw [HR.out],J.out⟩
 | some y=>
  obtain ⟨rfl,rfl⟩:=h2 y ho;obtain ⟨hb,l1,l6⟩:=open_b HC.out m6.out ho;have e7:=HX.out x ho;by_cases l4:n<0
  ·have HR:Hid (BC m (zv id) id s n=([],false,1)):=by (show _=_);unfold BC;rw [ho];simp only;rw [if_pos l4]
   have J:=zh ((b9.out.trans d5).trans Q);clear h1 h2 c7 Q ho
   go_wp2_with fail
   refine Ev (by simp [results,Tryz.results9,go_sem];rfl) rfl ⟨by rw [HR.out],J.out⟩
  ·obtain ⟨lim,b2⟩:∃l,l=min (20000 - x.steps) n:=⟨_,rfl⟩
   have HR:Hid (BC m (zv id) id s n=(s.take x.fin++(runJ m x.steps lim lim.toNat (loadS m x.ch x.steps) x.sg).1,(runJ m x.steps lim lim.toNat (loadS m x.ch x.steps) x.sg).2.done,0)):=by
    (show _=_);unfold BC;rw [ho];simp only;rw [if_neg l4,b2]
   have G:Hid (0<=lim/\lim<=1000/\x.steps+lim<=20000):=by have:=HN.out;exact ⟨by omega,by omega,by omega⟩
   have i3:=zh b2;have HB:=zh hb;have m7:=zh l1;have a7:Hid (0<=x.steps/\x.steps<=20000):=⟨l6,e7⟩;clear h1 h2 c7 ho hb l1 l6 e7 b2;go_upto_region 6 with fail;have c0:=zg.new w3 #[.slice Ac x.ch.length cc,.int .i64 x.steps,.int .i64 x.fin,.string ⟨x.sg.toArray⟩] 77 (g:=w3.heap.size) rfl;generalize w3.alloc _=w4 at c0 Q⊢;generalize w3.heap.size=gx at c0⊢;generalize w.heap.size=gm at r0 r1 r2 r3 r4 r5⊢;have D:zc w2 w4:=d5.trans Q;have r0:=fun W h=>r0 W (D.trans h)
   have r1:=fun W h=>r1 W (D.trans h)
   have r2:=fun W h=>r2 W (D.trans h)
   have r3:=fun W h=>r3 W (D.trans h)
   have r4:=fun W h=>r4 W (D.trans h)
   have r5:=fun W h=>r5 W (D.trans h)
   obtain ⟨k0,k1,k2,k3⟩:=zJ c0;have k0:=zc.rule k0;have k1:=zc.rule k1;have k2:=zc.rule k2;have k3:=zc.rule k3;have J:Hid (zc w w4):=b9.out.trans D;have m5:=zh (m4.out.below Q);have i7:Hid (RInv m (loadS m x.ch x.steps)):=(BJ m7.out).2
   have i2:Hid (Calls Tryz.prog 31 #[.agg #[.int .i64 m.w,.int .i64 m.h,.int .i64 m.l,.slice Af m.free.length cf,.slice Au m.up.length cu,.slice At m.tasks.length ct],.slice Ac x.ch.length cc,.int .i64 x.steps] w4 fun e w'=>∃g,e=.returned (.tuple #[.pointer (some ⟨g,0,none⟩),.int .i64 0])/\zc w4 w'/\RtB w' (fun k=>w4.heap.size<=k/\k<w'.heap.size) (fun b=>b<w4.heap.size) g m (loadS m x.ch x.steps)):=
    loadB_calls (Y:=fun b=>b<w4.heap.size) (s:=loadS m x.ch x.steps) w4 (((HM.out.maze.bound).weaken fun b hb=>Ef hb.2 J.out.size).below J.out) HL.out m5.out (by have:=HB.out.cl;have:=f3.out;show x.ch.length<=_;omega) (fun b hb=>hb) HC.out i7.out
   have hx:zc w4 w4:=zc.refl w4;clear D d5 Q c0 o8
   go_wp2_with fail
   refine i2.out.mono ?_;rintro e w5 ⟨g,rfl,f7,j7⟩;have i4:Hid (OneX w4 w5 (fun k=>w4.heap.size<=k/\k<w5.heap.size) g m (loadS m x.ch x.steps)):=⟨f7,j7,fun k hk=>hk.1,i7.out⟩;have g8:zc w4 w5:=f7;clear f7 j7 i2 hx;go_upto_region 10 with fail;have a4:Hid (BuiK (fun b=>b=w5.heap.size) w5.heap.size (Lib.byteCells []) (w5.alloc (.cells #[.pointer none,.slice none 0 0] 83))):=BuiK.new w5;have c8:zc w5 (w5.alloc (.cells #[.pointer none,.slice none 0 0] 83)):=(zc.refl w5).alloc _;generalize w5.alloc _=w6 at a4 c8⊢;obtain ⟨B,f5⟩:=EH w5.heap.size;rw [<-f5] at a4⊢;have i5:=zh (i4.out.more c8);have b7:Hid (B=w5.heap.size/\w4.heap.size<=B):=⟨f5,by have:=g8.size;omega⟩;have o9:zc w4 w6:=g8.trans c8;have k4:x.fin<=s.length:=HB.out.fin;have k5:=f3.out;have e1:ByteArray.extract ⟨s.toArray⟩ 0 x.fin=⟨(s.take x.fin).toArray⟩:=ext_take s x.fin;have f0:Hid ((Lib.byteCells ([]:List UInt8)).length+(ByteArray.mk (s.take x.fin).toArray).size<=140737488355328):=Cs (by simp;omega);clear f5 c8 g8
   go_wp2_with fail
   refine (wString_K ⟨(s.take x.fin).toArray⟩ a4.out f0.out).mono ?_;rintro e w7 ⟨rfl,f6,j4⟩;have h6:=zh (buiK_app (z:=s.take x.fin) j4 rfl);have e8:Hid (OneX w4 w7 (fun k=>w4.heap.size<=k/\k<w5.heap.size) g m (loadS m x.ch x.steps)):=i5.out.other (fun k e=>by have:=b7.out.2;omega) (fun k hk e=>by have:=b7.out.1;omega) f6;have n0:Hid (w6.heap.size<=w7.heap.size/\B<w6.heap.size):=⟨f6.size,a4.out.lt⟩;have g9:zc w4 w7:=e8.out.ext;clear f6 j4 o9 e1 k4 k5 i5 a4 i4
   go_wp2_with fail
   refine (jSealer_calls x.sg w7).mono ?_;rintro e w8 ⟨rfl,a9,f9⟩
   have b8:Hid (RunI w4 w8 (fun k=>w4.heap.size<=k/\k<w5.heap.size) (fun b=>b=B\/(w6.heap.size<=b/\b<w7.heap.size)) g B w7.heap.size m (loadS m x.ch x.steps) (s.take x.fin) x.sg):=by
    have h1:=b7.out;have h2:=n0.out;have h3:=a9.size;have h4:=g9.size;refine ⟨e8.out.more a9,h6.out.chg (zk.of_ext (X:=fun _=>False) a9) (fun _ _ h=>h),f9,fun k hk=>⟨by omega,by omega,by omega,?_⟩,by omega,by omega⟩;have:=za f9;omega
   obtain ⟨gs,k6⟩:∃g,g=w7.heap.size:=⟨_,rfl⟩;rw [<-k6] at b8⊢;have p2:zc w4 w8:=g9.trans a9;have o7:IntKind.i64.wrap (20000 - x.steps)=20000 - x.steps:=by rw [DZ];have:=a7.out;omega
   clear a9 f9 g9 k6 h6 e8;go_upto_region 13 with fail;rw [<-i3.out];obtain ⟨rr,g5⟩:∃r,r=loadS m x.ch x.steps:=⟨_,rfl⟩;have l5:rr.steps=x.steps:=by rw [g5];rfl
   rw [<-g5] at b8 HR;have i9:Hid (Calls Tryz.prog 17 #[.pointer (some ⟨g,0,none⟩),.int .i64 0] w8 fun e w'=>e=.returned (.bool rr.done)/\∃X',RunI w4 w' X' (fun b=>b=B\/(w6.heap.size<=b/\b<gs)) g B gs m rr (s.take x.fin) x.sg):=b8.out.step 0 (by omega) (by have:=a7.out;omega);obtain ⟨T,hT⟩:=EH (s.take x.fin++(runJ m x.steps lim lim.toNat rr x.sg).1);obtain ⟨RF,f8⟩:∃R,R=(runJ m x.steps lim lim.toNat rr x.sg).2:=⟨_,rfl⟩;rw [<-hT,<-f8] at HR;have f1:=zh l5;have a3:Hid (s.take x.fin++(runJ m x.steps lim lim.toNat rr x.sg).1=T/\(runJ m x.steps lim lim.toNat rr x.sg).2=RF):=⟨hT.symm,f8.symm⟩
   have a5:Hid ((s.take x.fin).length+7000*lim.toNat<=47000000):=by
    (show _<=_)
    have h1:=G.out;have h2:=f3.out;have h3:=List.length_take_le x.fin s;have h4:(s.take x.fin).length<=s.length:=by rw [Eu];omega
    omega
   have a6:Hid (x.sg.length<=1000):=by (show _<=_);rw [HB.out.sg];omega
   clear g5 l5 hT f8 b8 o7 i3
   go_wp2_with fail
   refine i9.out.mono ?_;rintro e w9 ⟨rfl,X9,j6⟩;have i0:=zh j6;clear j6 p2 i9
   go_wp2_with fail
   clear r0 r1 r2 r3 r4 r5 k0 k2 k3
   go_loopg [15] (lim.toNat) (fun gk v15 wr=>∃(X K:Nat->Prop) (r:RS) (out sg:List UInt8),v15=.bool r.done/\x.steps<=r.steps/\r.steps<=x.steps+lim/\lim<=r.steps - x.steps+gk/\Hid (sg.length<=1000)/\Hid (out.length+7000*gk<=47000000)/\Hid (RunI w4 wr X K g B gs m r out sg)/\Hid (out++(runJ m x.steps lim gk r sg).1=T/\(runJ m x.steps lim gk r sg).2=RF))
   case atStart=>exact ⟨X9,_,rr,_,_,rfl,by have:=f1.out;omega,by have h1:=f1.out;have h2:=G.out;omega,by have h1:=f1.out;have h2:=G.out;omega,a6,a5,i0,a3⟩
   clear i0 a3 a5 a6
   case round=>
    obtain ⟨X,K,r,out,sg,rfl,o3,o4,o5,a6,a5,HI,a3⟩:=hrel;obtain ⟨wk,rfl⟩:∃wk:World,wk=wr:=⟨_,rfl⟩;have hx:zc w4 wk:=HI.out.ext;have n8:=G.out;have n9:=a7.out;have g7:IntKind.i64.wrap (r.steps - x.steps)=r.steps - x.steps:=by rw [DZ];omega
    obtain ⟨d,hd⟩:=EH r.done;rw [<-hd];have HD:=zh hd;have f2:Hid (∀W,zc wk W->Calls Tryz.prog 18 #[.pointer (some ⟨g,0,none⟩)] W fun e w'=>e=.returned (.int .i64 r.steps)/\W=w'):=fun W h=>(HI.out.more h).rt.rt.stepsC
    clear hd;go_upto_region 14 with fail;go_cut [66] (fun v66 wc=>v66=.bool (!d && decide (r.steps - x.steps<lim))/\Hid (zc wk wc))
    case first=>
     have d6:zc wk wk:=zc.refl wk;have hx:∀W,zc wk W->W.cell? ⟨gx,1,none⟩=some (.int .i64 x.steps):=fun W h=>k1 W (hx.trans h)
     clear k1
     cases d with
     | true=>
      refine DU (S:=(fun W=>zc wk W)) AC (d6.drew) fun zH=>?_;generalize wk.drew=wd at zH⊢;refine zA 0 zH ?_;refine zA 1 zH ?_;simp only [zd,DB];refine zA 2 zH ?_;refine rtN 3 zH ?_;simp only [zd,DB];refine rtN 4 zH ?_;refine rtN 5 zH ?_;simp only [zd,DB];refine rtN 6 zH ?_;refine rtN 7 zH ?_;simp only [zd,DB];refine rtN 8 zH ?_;refine rtN 9 zH ?_;simp only [zd,DB];refine zA 10 zH ?_;simp only [zd,DB];refine Eh (by kernel_rfl) ?_ _;have f4:=zh zH;clear zH hx d6 g7;go_wp2;go_meet;exact ⟨rfl,f4⟩
     | false=>
      refine DU (S:=(fun W=>zc wk W)) AC (d6.drew) fun zH=>?_;generalize wk.drew=wd at zH⊢;refine zA 0 zH ?_;refine zA 1 zH ?_;simp only [zd,DB];refine zA 2 zH ?_;refine zA 3 zH ?_;simp only [zd,DB];refine zA 5 zH ?_;refine zA 6 zH ?_;simp only [zd,DB];refine zA 8 zH ?_;simp only [zd,DB];refine Ae 4 fun K hK=>?_;go_simp;go_at_call 18;refine (f2.out _ zH).mono ?_;rintro e wst ⟨rfl,rfl⟩;go_simp;refine EI hK (zH) fun zH=>?_;clear hK K;try simp only [zd,DB]
      refine zA 7 zH ?_;refine zA 9 zH ?_;simp only [zd,DB];refine zA 10 zH ?_;simp only [zd,DB];refine Eh (by kernel_rfl) ?_ _;have f4:=zh zH;clear zH hx d6 g7;go_wp2;go_meet;exact ⟨by simp,f4⟩
    case rest=>
     obtain ⟨rfl,a0⟩:=hcut;obtain ⟨w10,rfl⟩:∃w10:World,w10=wc:=⟨_,rfl⟩;have U:=zh (HI.out.more a0.out);clear hx g7;by_cases o:d=true\/lim<=r.steps - x.steps
     ·have b5:(!d && decide (r.steps - x.steps<lim))=false:=by
       rcases o with h | h
       ·rw [h];rfl
       ·rw [DI (by omega),Bool.and_false]
      rw [b5]
      have d7:Hid (out=T/\r=RF):=by
       have h1:=a3.out;rw [runJ_stop (by rw [<-HD.out];exact o),List.append_nil] at h1;exact h1
      have m2:Hid (B<=w10.heap.size):=Nat.le_of_lt U.out.bu.lt;clear b5 o a3
      go_wp2_with fail
      refine (CY U.out.bu.bui m2.out).mono ?_;rintro e w11 ⟨rfl,e6⟩
      have j3:Hid (zc w w11):=by
       have h1:=J.out.trans U.out.ext;exact Below.trans h1 (e6.mono (by have h2:=b7.out.2;have h3:=J.out.size;omega))
      clear e6
      go_wp2_with fail
      refine Ev (by simp [results,Tryz.results9,go_sem];rfl) rfl ⟨?_,j3.out⟩;rw [HR.out,HD.out,d7.out.1,d7.out.2]
     ·have g0:d=false:=by
       cases d with
       | true=>exact absurd (.inl rfl) o
       | false=>rfl
      have l2:r.steps - x.steps<lim:=by
       rcases Int.lt_or_le (r.steps - x.steps) lim with q | q
       ·exact q
       ·exact absurd (.inr q) o
      have b5:(!d && decide (r.steps - x.steps<lim))=true:=by rw [g0,DH l2];rfl
      rw [b5];obtain ⟨q,hq⟩:=EH (r.steps % 16);have o0:0<=q/\q<16:=by rw [hq];exact ⟨Int.emod_nonneg _ (by decide),Int.emod_lt_of_pos _ (by decide)⟩
      obtain ⟨o1,o2⟩:=o0;obtain ⟨kN,k9⟩:∃k:Nat,k=(min (16 - q) (lim - (r.steps - x.steps))).toNat:=⟨_,rfl⟩;have k8:(kN:Int)=min (16 - q) (lim - (r.steps - x.steps)):=by omega
      have l0:kN<=16/\0<kN/\(kN:Int)<=lim - (r.steps - x.steps):=by omega
      obtain ⟨r',b3⟩:∃r',r'=RS.run m kN r:=⟨_,rfl⟩;have d4:=BP m kN r;rw [<-b3] at d4;have g3:=d4.2.2.2 (by rw [<-HD.out];exact g0) l0.2.1;have k7:=d4.2.1;have i1:Hid (RInv m r'):=by (show RInv _ _);rw [b3];exact HI.out.rt.inv.run kN
      obtain ⟨gk',g1⟩:∃f,gk=f+1:=⟨gk - 1,by omega⟩
      have h7:Hid (runJ m x.steps lim gk r sg=(zU sg r'.ch r'.steps++(runJ m x.steps lim gk' r' (zT sg r'.ch r'.steps)).1,(runJ m x.steps lim gk' r' (zT sg r'.ch r'.steps)).2)):=by
       (show _=_)
       rw [g1];exact runJ_go (by rw [<-HD.out];exact o) (by rw [<-hq,<-k9,b3])
      have I:Hid (x.steps<=r'.steps/\r'.steps<=x.steps+lim/\lim<=r'.steps - x.steps+gk'/\gk'<gk/\gk=gk'+1):=⟨by omega,by omega,by omega,by omega,g1⟩
      have j2:Hid (∀W,zc wk W->Calls Tryz.prog 17 #[.pointer (some ⟨g,0,none⟩),.int .i64 (min (16 - q) (lim - (r.steps - x.steps)))] W fun e w'=>e=.returned (.bool r'.done)/\∃X',RunI w4 w' X' K g B gs m r' out sg):=fun W h=>by
       rw [<-k8,b3];exact (HI.out.more h).step kN (by omega) (by omega)
      have l3:r.steps.tmod 16=q:=by rw [hq];exact Int.tmod_eq_emod_of_nonneg (by omega)
      have w2a:IntKind.i64.wrap (r.steps - x.steps)=r.steps - x.steps:=by rw [DZ];omega
      have w2b:IntKind.i64.wrap q=q:=by rw [DZ];omega
      have w2c:IntKind.i64.wrap (16 - q)=16 - q:=by rw [DZ];omega
      have w2d:IntKind.i64.wrap (lim - (r.steps - x.steps))=lim - (r.steps - x.steps):=by rw [DZ];omega
      clear b5 o g0 l2 hq k9 k8 l0 b3 d4 g3 k7 g1 n8 n9 o3 o4 o5 o1 o2;go_upto_region 15 with fail;have hx:zc w4 w10:=U.out.ext;have j8:w10.cell? ⟨gx,1,none⟩=some (.int .i64 x.steps):=k1 _ hx;go_cut [15] (fun v15 wc=>v15=.bool r'.done/\Hid (∃X',RunI w4 wc X' K g B gs m r' out sg))
      case first=>
       refine wp_dark (fun Q' hP n2=>?_) (fun c a a' w hd h=>by obtain ⟨t,d⟩:=a;obtain ⟨t',d'⟩:=a';cases hd;exact h);refine AK (S:=(fun W=>W.cell? ⟨gx,1,none⟩=some (.int .i64 x.steps))) AC (j8) fun zH=>?_;have c9:zc w10 w10.drew:=(zc.refl w10).drew;generalize w10.drew=wd at zH c9⊢;refine ze (i:=0) (v:=?v22) rfl (by kernel_rfl) (by kernel_rfl) (by kernel_rfl) (by kernel_rfl) (fun _ _ _ h=>hP _ _ _ _ (by rfl) h) (Or.inl ⟨?w22,?y22⟩) zH ?r22
       case w22=>rfl
       case y22=>(intro w E;go_simp;try with_reducible rfl)
       simp only [zd,DB];refine ze (i:=1) (v:=?v23) rfl (by kernel_rfl) (by kernel_rfl) (by kernel_rfl) (by kernel_rfl) (fun _ _ _ h=>hP _ _ _ _ (by rfl) h) (Or.inl ⟨?w23,?y23⟩) zH ?r23
       case w23=>rfl
       case y23=>(intro w E;go_simp;try with_reducible rfl)
       simp only [zd,DB];refine ze (i:=5) (v:=?v24) rfl (by kernel_rfl) (by kernel_rfl) (by kernel_rfl) (by kernel_rfl) (fun _ _ _ h=>hP _ _ _ _ (by rfl) h) (Or.inl ⟨?w24,?y24⟩) zH ?r24
       case w24=>rfl
       case y24=>(intro w E;go_simp;try with_reducible rfl)
       simp only [zd,DB];refine ze (i:=6) (v:=?v25) rfl (by kernel_rfl) (by kernel_rfl) (by kernel_rfl) (by kernel_rfl) (fun _ _ _ h=>hP _ _ _ _ (by rfl) h) (Or.inl ⟨?w25,?y25⟩) zH ?r25
       case w25=>rfl
       case y25=>(intro w E;go_simp;try with_reducible rfl)
       simp only [zd,DB];refine ze (i:=8) (v:=?v26) rfl (by kernel_rfl) (by kernel_rfl) (by kernel_rfl) (by kernel_rfl) (fun _ _ _ h=>hP _ _ _ _ (by rfl) h) (Or.inl ⟨?w26,?y26⟩) zH ?r26
       case w26=>rfl
       case y26=>(intro w E;go_simp;try with_reducible rfl)
       simp only [zd,DB];refine ze (i:=9) (v:=?v27) rfl (by kernel_rfl) (by kernel_rfl) (by kernel_rfl) (by kernel_rfl) (fun _ _ _ h=>hP _ _ _ _ (by rfl) h) (Or.inl ⟨?w27,?y27⟩) zH ?r27
       case w27=>rfl
       case y27=>(intro w E;go_simp;try with_reducible rfl)
       simp only [zd,DB];refine zt (rs:=[2]) (by kernel_rfl) (by simp) ?_;refine zj.cons rfl (fun K hK=>?_) zj.nil;go_simp;go_at_call 18;refine (f2.out _ (a0.out.trans c9)).mono ?_;rintro e wst ⟨rfl,rfl⟩;go_simp;refine EI hK (zH) fun zH=>?_;clear hK K;try simp only [zd,DB]
       refine ze (i:=3) (v:=?v28) rfl (by kernel_rfl) (by kernel_rfl) (by kernel_rfl) (by kernel_rfl) (fun _ _ _ h=>hP _ _ _ _ (by rfl) h) (Or.inl ⟨?w28,?y28⟩) zH ?r28
       case w28=>rfl
       case y28=>(intro w E;go_simp;try with_reducible rfl)
       simp only [zd,DB];refine ze (i:=4) (v:=?v29) rfl (by kernel_rfl) (by kernel_rfl) (by kernel_rfl) (by kernel_rfl) (fun _ _ _ h=>hP _ _ _ _ (by rfl) h) (Or.inl ⟨?w29,?y29⟩) zH ?r29
       case w29=>rfl
       case y29=>(intro w E;go_simp;try with_reducible rfl)
       simp only [zd,DB];refine zt (rs:=[7]) (by kernel_rfl) (by simp) ?_;refine zj.cons rfl (fun K hK=>?_) zj.nil;go_simp;go_at_call 18;refine (f2.out _ (a0.out.trans c9)).mono ?_;rintro e wst ⟨rfl,rfl⟩;go_simp;refine EI hK (zH) fun zH=>?_;clear hK K;try simp only [zd,DB]
       refine ze (i:=10) (v:=?v30) rfl (by kernel_rfl) (by kernel_rfl) (by kernel_rfl) (by kernel_rfl) (fun _ _ _ h=>hP _ _ _ _ (by rfl) h) (Or.inl ⟨?w30,?y30⟩) zH ?r30
       case w30=>rfl
       case y30=>(intro w E;go_simp;try with_reducible rfl)
       simp only [zd,DB];refine ze (i:=11) (v:=?v31) rfl (by kernel_rfl) (by kernel_rfl) (by kernel_rfl) (by kernel_rfl) (fun _ _ _ h=>hP _ _ _ _ (by rfl) h) (Or.inl ⟨?w31,?y31⟩) zH ?r31
       case w31=>rfl
       case y31=>(intro w E;go_simp;try with_reducible rfl)
       simp only [zd,DB];refine ze (i:=12) (v:=?v32) rfl (by kernel_rfl) (by kernel_rfl) (by kernel_rfl) (by kernel_rfl) (fun _ _ _ h=>hP _ _ _ _ (by rfl) h) (Or.inl ⟨?w32,?y32⟩) zH ?r32
       case w32=>rfl
       case y32=>(intro w E;go_simp;try with_reducible rfl)
       simp only [zd,DB];refine zt (rs:=[13]) (by kernel_rfl) (by simp) ?_;refine zj.cons rfl (fun K hK=>?_) zj.nil;go_simp;go_at_call 17;refine (j2.out _ (a0.out.trans c9)).mono ?_;rintro e w13 ⟨rfl,X13,e4⟩;have O:=zh e4;clear e4;go_simp;refine EI hK (k1 _ O.out.ext) fun zH=>?_;clear hK K;try simp only [zd,DB]
       refine zt (rs:=[14]) (by kernel_rfl) (by simp) ?_;refine zj.last rfl (by kernel_rfl) fun K hK=>?_;go_simp;go_simp;refine hK.out _ _ ?_;clear hK K;refine Bh (by kernel_rfl) ?_ _;subst n2;go_wp2;go_meet;exact ⟨rfl,X13,O.out⟩
      case rest=>
       obtain ⟨rfl,M⟩:=hcut;obtain ⟨X',e3⟩:=M.out;obtain ⟨w11,rfl⟩:∃w11:World,w11=wc:=⟨_,rfl⟩;have M:=zh e3;clear e3 hx j8 l3 w2a w2b w2c w2d;have hi:=run_i64 M.out.rt.rt.good i1.out;have d8:=zh hi;have g4:=recB_le (sg:=sg) (ch:=r'.ch) (st:=r'.steps) a6.out hi.1 ⟨by have:=I.out;have:=a7.out;omega,by have:=I.out;have:=G.out;omega⟩ hi.2;obtain ⟨rec,b4⟩:∃x,x=zU sg r'.ch r'.steps:=⟨_,rfl⟩;rw [<-b4] at g4 h7;have i6:=zh b4;have i8:=zh g4;clear hi g4 b4
       go_wp2_with fail
       refine M.out.rt.rt.choices.mono ?_;rintro e w12 ⟨vch,rfl,hM⟩;have V:=zh (M.out.more hM.ext);have m3:=zh hM.ints;obtain ⟨Ah,ch,rfl,-⟩:=hM.slice;clear hM
       go_wp2_with fail
       refine V.out.rt.rt.stepsC.mono ?_;rintro e wb ⟨rfl,rfl⟩
       go_wp2_with fail
       refine (jSeal_calls w12 (HV.out.ext (J.out.trans V.out.ext)) V.out.sl a6.out m3.out d8.out.1 (by have:=d8.out.2;omega) ⟨by have:=I.out;have:=a7.out;omega,by have:=I.out;have:=G.out;omega⟩).mono ?_;rintro e w13 ⟨rfl,e0,e5,-⟩;rw [<-i6.out];have O:=zh (V.out.seal e0 e5);have f0:Hid ((Lib.byteCells out).length+(ByteArray.mk rec.toArray).size<=140737488355328):=Cs (by have h1:=i8.out;have h2:=a5.out;omega);clear e0 e5
       go_wp2_with fail
       refine (wString_K ⟨rec.toArray⟩ O.out.bu f0.out).mono ?_;rintro e w14 ⟨rfl,e2,d9⟩;have h9:=zh (O.out.write e2 (buiK_app (z:=out++rec) d9 rfl));clear e2 d9
       have m9:Hid ((out++rec)++(runJ m x.steps lim gk' r' (zT sg r'.ch r'.steps)).1=T/\(runJ m x.steps lim gk' r' (zT sg r'.ch r'.steps)).2=RF):=by
        have h1:=a3.out;rw [h7.out] at h1;exact ⟨by rw [List.append_assoc];exact h1.1,h1.2⟩
       have j1:Hid ((zT sg r'.ch r'.steps).length<=1000):=by (show _<=_);rw [AT];omega
       have m8:Hid ((out++rec).length+7000*gk'<=47000000):=by (show _<=_);have h1:=i8.out;have h2:=a5.out;have h3:=I.out.2.2.2.2;rw [DM];omega
       go_wp2
       go_roundg gk'
       case measure=>exact I.out.2.2.2.1
       case rel=>exact ⟨_,_,r',out++rec,_,rfl,I.out.1,I.out.2.1,I.out.2.2.1,j1.out,m8.out,h9.out,m9.out⟩
noncomputable def Bx (m:MZ) (h id s:List UInt8):List (List Int)×PT×Int:=match zE m h id s with
 | none=>([],.zero,4)
 | some x=>if Bk m x.ch=true then (Cw m x.ch,.zero,0) else if (loadS m x.ch x.steps).done=false then ([],.zero,53) else if (zW m).1≠0 then ([],.zero,(zW m).1) else ([],(zW m).2,54)
def CX (w:World) (m:MZ) (id s:List UInt8) (e:Ending) (w':World):Prop:=
 ∃vp vr,e=.returned (.tuple #[vp,vr,.int .i64 (Bx m (zv id) id s).2.2])/\zc w w'/\zV w' (fun b=>w.heap.size<=b) vp (Bx m (zv id) id s).1/\Ck w' (fun b=>w.heap.size<=b) vr (Bx m (zv id) id s).2.1
def MakeC (w:World) (v:Value) (m:MZ):Prop:=∀W,zc w W->Calls Tryz.prog 36 #[v] W fun e w'=>∃v',e=.returned (.tuple #[v',.int .i64 (zW m).1])/\zc W w'/\Ck w' (fun b=>W.heap.size<=b) v' (zW m).2
theorem res_fin {w wq:World} {gp:Nat} {x y z vp a0 a1 a2:Value} {n:Int} {p:PT} {ps:List (List Int)} {a:Act} (M:zc w wq) (U:w.heap.size<=gp) (d:zg wq gp 42 #[a0,a1,a2])
  (Q:zV wq (fun b=>w.heap.size<=b/\b≠gp) vp ps) (hp:Ck wq (fun b=>w.heap.size<=b/\b≠gp) (.agg #[x,y,z]) p) (E:Bx m (zv id) id s=(ps,p,n))
  (G:a.tmps[4]?=some vp) (I:a.tmps[5]?=some (.pointer (some ⟨gp,0,none⟩))) (J:a.tmps[6]?=some (.int .i64 n)) (O:a.defers=[]):
  bodyPost Tryz.prog Tryz.f10 (CX w m id s) Exit.ret a (((wq.setCell ⟨gp,0,none⟩ x).setCell ⟨gp,1,none⟩ y).setCell ⟨gp,2,none⟩ z):=by
 have o:=((d.set (k:=0) x).set (k:=1) y).set (k:=2) z;have D:zk (fun b=>b=gp) wq (((wq.setCell ⟨gp,0,none⟩ x).setCell ⟨gp,1,none⟩ y).setCell ⟨gp,2,none⟩ z):=(((zk.refl (fun b=>b=gp) _).set gp 0 _ rfl).set gp 1 _ rfl).set gp 2 _ rfl;generalize ((wq.setCell ⟨gp,0,none⟩ x).setCell ⟨gp,1,none⟩ y).setCell ⟨gp,2,none⟩ z=WZ at o D⊢;have c0:WZ.cell? ⟨gp,0,none⟩=some x:=o.cell (k:=0) rfl;have c1:WZ.cell? ⟨gp,1,none⟩=some y:=o.cell (k:=1) rfl;have c2:WZ.cell? ⟨gp,2,none⟩=some z:=o.cell (k:=2) rfl;have e4:a.tmps.getD 4 undef=vp:=by rw [Array.getD_eq_getD_getElem?,G];rfl
 have e5:a.tmps.getD 5 undef=.pointer (some ⟨gp,0,none⟩):=by rw [Array.getD_eq_getD_getElem?,I];rfl
 have e6:a.tmps.getD 6 undef=.int .i64 n:=by rw [Array.getD_eq_getD_getElem?,J];rfl
 refine Ev (v:=.tuple #[vp,.agg #[x,y,z],.int .i64 n]) (by simp [results,Tryz.results10,go_sem,G,I,J,e4,e5,e6,c0,c1,c2]) O ⟨vp,_,by rw [E],Below.trans M (D.below M.size fun b e=>by omega),?_,?_⟩
 ·rw [E];exact (Q.keep (D.same fun b d e=>d.2 e)).weaken fun b d=>d.1
 ·rw [E];exact hp.keepW (D.same fun b d e=>d.2 e) fun b d=>d.1
theorem jResult_calls (w:World) (hv:zq w) (hm:BD w ok v m ns) (hs:Small m ns) (hl:Lens m) (hc:BS m=0) (e8:s.length<=40000000)
  (hx:∀x,zE m (zv (Dl (AG m ns))) (Dl (AG m ns)) s=some x->x.steps<=20000)
  (e7:∀x,zE m (zv (Dl (AG m ns))) (Dl (AG m ns)) s=some x->Bk m x.ch=false->(loadS m x.ch x.steps).done=true->MakeC w v m):
  Calls Tryz.prog 10 #[v,.string ⟨s.toArray⟩] w (CX w m (Dl (AG m ns)) s):=by
 have HM:=zh hm;have HL:=zh hl;have HC:=zh hc;have i2:=zh e8;obtain ⟨f,u,t,rfl,⟨_,⟨Af,cf,rfl,-,-⟩,-⟩,⟨Au,cu,rfl,-,-⟩,⟨-,_,⟨At,ct,rfl,-,-⟩,-⟩⟩:=hm;have HO:Hid (∀W,zc w W->Calls Tryz.prog 30 #[.agg #[.int .i64 m.w,.int .i64 m.h,.int .i64 m.l,.slice Af m.free.length cf,.slice Au m.up.length cu,.slice At m.tasks.length ct],.string ⟨s.toArray⟩] W (OpenPost W m (Dl (AG m ns)) s)):=fun W h=>Ds W (hv.ext h) (HM.out.below h) hs hl hc e8
 have a3:(Dl (AG m ns)).length=8:=Bd _;obtain ⟨id,hid⟩:∃x,x=Dl (AG m ns):=⟨_,rfl⟩;rw [<-hid] at HO hx a3 e7⊢;have h8:=zh a3;have HX:=zh hx;have d7:=zh e7;clear hv hs hl hc e8 hx hid a3 e7
 go_enter Tryz.func10,Tryz.ntmps10
 go_upto_region 1 with fail;obtain ⟨b4,r0,r1,r2,r3,r4,r5⟩:=mz_box w m Af cf Au cu At ct;have c8:(w.alloc (.cells (mzc m Af cf Au cu At ct) 29)).heap.size=w.heap.size+1:=by simp
 simp only [mzc] at b4 r0 r1 r2 r3 r4 r5 c8;generalize w.alloc _=w1 at b4 r0 r1 r2 r3 r4 r5 c8⊢;have I:=zg.new w1 #[.int .i64 0,.slice none 0 0,.slice none 0 0] 42 (g:=w1.heap.size) rfl;have o:zc w1 (w1.alloc (.cells #[.int .i64 0,.slice none 0 0,.slice none 0 0] 42)):=(zc.refl w1).alloc _;generalize w1.alloc _=w2 at I o⊢;rw [c8] at I;obtain ⟨gp,g4⟩:∃g,g=w.heap.size+1:=⟨_,rfl⟩;rw [<-g4] at I⊢;have a6:=zh I;have E:Hid (w.heap.size<=gp/\gp<w2.heap.size):=⟨by omega,za I⟩;have D:Hid (zc w w2):=b4.trans o;have r0:=fun W h=>r0 W (o.trans h)
 have r1:=fun W h=>r1 W (o.trans h)
 have r2:=fun W h=>r2 W (o.trans h)
 have r3:=fun W h=>r3 W (o.trans h)
 have r4:=fun W h=>r4 W (o.trans h)
 have r5:=fun W h=>r5 W (o.trans h)
 have g8:zc w2 w2:=zc.refl w2;clear b4 o c8 I g4
 go_wp2_with fail
 refine (HO.out _ D.out).mono ?_;rintro e w3 ⟨vc,x,er,rfl,e2,g0,h1,h2⟩;have h5:=zh g0;have c0:zc w2 w3:=e2;obtain ⟨Ac,cc,rfl,-,-⟩:=g0;simp only [jsc];have J:zc w3 (w3.alloc (.cells #[.slice Ac x.ch.length cc,.int .i64 x.steps,.int .i64 x.fin,.string ⟨x.sg.toArray⟩] 77)):=(zc.refl w3).alloc _
 cases ho:zE m (zv id) id s with
 | none=>
  have HR:Hid (Bx m (zv id) id s=([],.zero,4)):=by (show _=_);unfold Bx;rw [ho]
  have a2:=h1 ho;subst a2;have f7:=zh (c0.trans J);have O:=zh (a6.out.ext f7.out);have z0:=O.out.cell (k:=0) rfl;have z1:=O.out.cell (k:=1) rfl;have z2:=O.out.cell (k:=2) rfl;have fz:=fun j=>O.out.frozen j
  clear h1 h2 e2 J ho g8 c0
  go_wp2_with fail
  exact res_fin (D.out.trans f7.out) E.out.1 O.out (intss_nil _ _) (Ck.zero _ _) HR.out rfl rfl rfl rfl
 | some y=>
  obtain ⟨rfl,rfl⟩:=h2 y ho;obtain ⟨hb,g5,g7⟩:=open_b HC.out h8.out ho;have d4:=HX.out x ho;have d7:=zh (d7.out x ho);have b0:Hid (Bx m (zv id) id s=if Bk m x.ch=true then (Cw m x.ch,.zero,0) else if (loadS m x.ch x.steps).done=false then ([],.zero,53) else if (zW m).1≠0 then ([],.zero,(zW m).1) else ([],(zW m).2,54)):=by (show _=_);unfold Bx;rw [ho]
  have HB:=zh hb;have h9:=zh g5;have i3:Hid (0<=x.steps/\x.steps<=20000):=⟨g7,d4⟩;clear h1 h2 e2 ho hb g5 g7 d4;go_upto_region 4 with fail;have b3:=zg.new w3 #[.slice Ac x.ch.length cc,.int .i64 x.steps,.int .i64 x.fin,.string ⟨x.sg.toArray⟩] 77 (g:=w3.heap.size) rfl;generalize w3.alloc _=w4 at b3 J⊢;generalize w3.heap.size=gx at b3⊢;generalize w.heap.size=gm at r0 r1 r2 r3 r4 r5⊢;have c6:zc w2 w4:=c0.trans J;obtain ⟨k0,k1,k2,k3⟩:=zJ b3;have f6:Hid (zc w w4):=D.out.trans c6;have HZ:Hid (w2.heap.size<=w4.heap.size):=c6.size;have h6:=zh (h5.out.below J);have f5:Hid (RInv m (loadS m x.ch x.steps)):=(BJ h9.out).2
  have f1:Hid (Calls Tryz.prog 31 #[.agg #[.int .i64 m.w,.int .i64 m.h,.int .i64 m.l,.slice Af m.free.length cf,.slice Au m.up.length cu,.slice At m.tasks.length ct],.slice Ac x.ch.length cc,.int .i64 x.steps] w4 fun e w'=>∃g,e=.returned (.tuple #[.pointer (some ⟨g,0,none⟩),.int .i64 0])/\zc w4 w'/\RtB w' (fun k=>w4.heap.size<=k/\k<w'.heap.size) (fun b=>b<w4.heap.size) g m (loadS m x.ch x.steps)):=
   loadB_calls (Y:=fun b=>b<w4.heap.size) (s:=loadS m x.ch x.steps) w4 (((HM.out.maze.bound).weaken fun b hb=>Ef hb.2 f6.out.size).below f6.out) HL.out h6.out (by have:=HB.out.cl;have:=i2.out;show x.ch.length<=_;omega) (fun b hb=>hb) HC.out f5.out
  clear c0 J b3 g8 k2 k3
  go_wp2_with fail
  refine f1.out.mono ?_;rintro e w5 ⟨g,rfl,e3,g3⟩;have f2:Hid (OneX w4 w5 (fun k=>w4.heap.size<=k/\k<w5.heap.size) g m (loadS m x.ch x.steps)):=⟨e3,g3,fun k hk=>hk.1,f5.out⟩;have e9:zc w2 w5:=c6.trans e3;have f0:=zh f2.out.rt.found;clear e3 g3 f1 c6 k0 k1;obtain ⟨cb,a1⟩:∃b,b=Bk m x.ch:=⟨_,rfl⟩
  go_wp2_with fail
  refine f0.out.mono ?_;rintro e w6 ⟨vp,rfl,e4,a0⟩;rw [show Bk m (loadS m x.ch x.steps).ch=cb from a1.symm];have a0:zV w6 (fun b=>w5.heap.size<=b) vp (Cw m x.ch):=a0;obtain ⟨_,⟨Ap,cp,rfl,-,-⟩,-⟩:=_root_.id a0;have h7:=zh a0;have f3:=zh (f2.out.more e4);have a5:zc w2 w6:=e9.trans e4;have i4:=zh e9;have Q:=zh (a6.out.ext a5);clear e4 a0 e9 f0
  cases cb with
  | true=>
   have HR:Hid (Bx m (zv id) id s=(Cw m x.ch,.zero,0)):=by (show _=_);rw [b0.out,if_pos a1.symm]
   have z0:=Q.out.cell (k:=0) rfl;have z1:=Q.out.cell (k:=1) rfl;have z2:=Q.out.cell (k:=2) rfl;have fz:=fun j=>Q.out.frozen j
   have b1:=zh a5;clear a1 a5
   go_wp2_with fail
   refine res_fin (D.out.trans b1.out) E.out.1 Q.out (h7.out.weaken fun b hb=>?_) (Ck.zero _ _) HR.out rfl rfl rfl rfl;have h1:=E.out;have h2:=i4.out.size;have h3:=D.out.size;omega
  | false=>
   obtain ⟨dn,e6⟩:∃b,b=(loadS m x.ch x.steps).done:=⟨_,rfl⟩
   have c9:Hid (Calls Tryz.prog 17 #[.pointer (some ⟨g,0,none⟩),.int .i64 0] w6 fun e w'=>e=.returned (.bool dn)/\zk (fun k=>w4.heap.size<=k/\k<w5.heap.size) w6 w'):=by
    rw [e6];exact (f3.out.step 0 (by omega) (by have:=i3.out;show x.steps<=_;omega)).mono fun e w' h=>⟨h.1,h.2.2⟩
   have i6:Hid (w2.heap.size<=w4.heap.size/\w4.heap.size<=w6.heap.size):=by
    have h1:=f3.out.ext.size;have h2:=E.out;exact ⟨HZ.out,h1⟩
   have a7:=zh a1;have a8:=zh e6;have b1:=zh a5;clear a1 e6
   go_wp2_with fail
   refine c9.out.mono ?_;rintro e w7 ⟨rfl,f8⟩;have c7:zc w2 w7:=Below.trans b1.out (f8.below b1.out.size (fun b hb=>by have:=i6.out;omega));have b2:=zh c7;have U:=zh (a6.out.ext c7);have z0:=U.out.cell (k:=0) rfl;have z1:=U.out.cell (k:=1) rfl;have z2:=U.out.cell (k:=2) rfl;have fz:=fun j=>U.out.frozen j
   clear f8 c9 a5
   cases dn with
   | false=>
    have HR:Hid (Bx m (zv id) id s=([],.zero,53)):=by (show _=_);rw [b0.out,if_neg (by rw [<-a7.out];simp),if_pos a8.out.symm]
    clear c7
    go_wp2_with fail
    exact res_fin (D.out.trans b2.out) E.out.1 U.out (intss_nil _ _) (Ck.zero _ _) HR.out rfl rfl rfl rfl
   | true=>
    have d6:=zh (d7.out a7.out.symm a8.out.symm w7 (D.out.trans b2.out));obtain ⟨er,a2⟩:∃e,e=(zW m).1:=⟨_,rfl⟩;rw [<-a2] at d6;have d5:=zh a2;clear a2 z0 z1 z2 fz
    go_wp2_with fail
    refine d6.out.mono ?_;rintro e w8 ⟨vq,rfl,f9,e5⟩;obtain ⟨As,cs,Ak,ck,rfl,-⟩:=e5.form;have i0:Hid (Ck w8 (fun b=>w.heap.size<=b/\b≠gp) _ (zW m).2):=e5.wk fun b hb _=>by have h1:=E.out;have h2:=b2.out.size;have h3:=D.out.size;omega
    have d8:Hid (zc w2 w8):=b2.out.trans f9;have b5:zc w8 (w8.alloc (.cells #[.int .i64 (zW m).2.task,.slice As (zW m).2.side.length cs,.slice Ak (zW m).2.kids.length ck] 42)):=(zc.refl w8).alloc _;have G:=zh (a6.out.ext (d8.out.trans b5));have d9:Hid (zc w2 _):=d8.out.trans b5;have z0:=G.out.cell (k:=0) rfl;have z1:=G.out.cell (k:=1) rfl;have z2:=G.out.cell (k:=2) rfl;have fz:=fun j=>G.out.frozen j
    clear e5 f9 d6 c7;by_cases M:er=0
    ·have i8:(er != 0)=false:=by simp [M]
     have HR:Hid (Bx m (zv id) id s=([],(zW m).2,54)):=by (show _=_);rw [b0.out,if_neg (by rw [<-a7.out];simp),if_neg (by rw [<-a8.out];simp),if_neg (by rw [<-d5.out,M];simp)]
     clear M;have e1:=zg.new w8 #[.int .i64 (zW m).2.task,.slice As (zW m).2.side.length cs,.slice Ak (zW m).2.kids.length ck] 42 (g:=w8.heap.size) rfl;have g6:gp≠w8.heap.size:=by have h1:=E.out;have h2:=d8.out.size;omega
     have f4:=zh (i0.out.ext b5);clear z0 z1 z2 fz;go_upto_region 15 with fail;generalize w8.alloc _=w9 at G d9 f4 e1 b5⊢;generalize w8.heap.size=g9 at e1 g6⊢;have a4:g9≠gp:=fun e=>g6 e.symm
     have h4:Hid (zg w9.drew g9 42 #[.int .i64 (zW m).2.task,.slice As (zW m).2.side.length cs,.slice Ak (zW m).2.kids.length ck]):=e1;refine wp_dark (fun Q' hP i7=>?_) (fun c a a' w hd h=>by obtain ⟨t,d⟩:=a;obtain ⟨t',d'⟩:=a';cases hd;exact h);refine AK (S:=(fun W=>zg W g9 42 #[.int .i64 (zW m).2.task,.slice As (zW m).2.side.length cs,.slice Ak (zW m).2.kids.length ck])) AC (h4.out) fun zH=>?_;have b6:zc w9 w9.drew:=(zc.refl w9).drew;generalize w9.drew=wd at zH b6⊢;have V:=zh (G.out.ext b6);have i5:Hid (zc w2 wd):=d9.out.trans b6;have i1:=zh (f4.out.ext b6);refine ze (i:=0) (v:=?v1) rfl (by kernel_rfl) (by kernel_rfl) (by kernel_rfl) (by kernel_rfl) (fun _ _ _ h=>hP _ _ _ _ (by rfl) h) (Or.inl ⟨?w1,?y1⟩) zH ?r1
     case w1=>rfl
     case y1=>(intro w b7;have q0:=zg.cell (k:=0) b7 rfl;have q1:=zg.cell (k:=1) b7 rfl;have q2:=zg.cell (k:=2) b7 rfl;go_simp;try with_reducible rfl)
     simp only [zd,DB];refine ze (i:=1) (v:=?v2) rfl (by kernel_rfl) (by kernel_rfl) (by kernel_rfl) (by kernel_rfl) (fun _ _ _ h=>hP _ _ _ _ (by rfl) h) (Or.inl ⟨?w2,?y2⟩) zH ?r2
     case w2=>rfl
     case y2=>(intro w b7;go_simp;try with_reducible rfl)
     simp only [zd,DB];refine zt (rs:=[2]) (by kernel_rfl) (by simp) ?_;refine zj.cons rfl (fun K hK=>?_) zj.nil;go_simp;have z0:=V.out.cell (k:=0) rfl;have z1:=V.out.cell (k:=1) rfl;have z2:=V.out.cell (k:=2) rfl;have fz:=fun j=>V.out.frozen j
     go_simp;clear z0 z1 z2 fz;go_simp;refine EI hK (((zg.setOther (a:=⟨gp,0,none⟩) zH a4 _).setOther (a:=⟨gp,1,none⟩) a4 _).setOther (a:=⟨gp,2,none⟩) a4 _) fun zH=>?_;clear hK K;try simp only [zd,DB]
     refine zt (rs:=[3]) (by kernel_rfl) (by simp) ?_;refine zj.last rfl (by kernel_rfl) fun K hK=>?_;go_simp;go_simp;refine hK.out _ _ ?_;clear hK K;refine Bh (by kernel_rfl) ?_ _;subst i7;go_wp2;exact res_fin (D.out.trans i5.out) E.out.1 V.out (intss_nil _ _) i1.out HR.out rfl rfl rfl rfl
    ·have i8:(er != 0)=true:=by simp [M]
     have HR:Hid (Bx m (zv id) id s=([],.zero,er)):=by (show _=_);rw [b0.out,if_neg (by rw [<-a7.out];simp),if_neg (by rw [<-a8.out];simp),if_pos (by rw [<-d5.out];exact M),d5.out]
     clear M
     go_wp2_with fail
     exact res_fin (D.out.trans d9.out) E.out.1 G.out (intss_nil _ _) (Ck.zero _ _) HR.out rfl rfl rfl rfl
end
end Go.Proofs.YtfjjdmpndmbfoaaGreatDoor
