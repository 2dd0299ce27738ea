import Derived.Test.YtjomnbdjajjgfaaGreatDoorWIt
set_option linter.unusedVariables false
set_option linter.unusedSimpArgs false
set_option maxRecDepth 100000
set_option maxHeartbeats 16000000
namespace Go.Proofs.YtjomnbdjajjgfaaGreatDoor
variable {er:Int} {x:JS} {ns:List ByteArray} {id out s sg:List UInt8} {m:MZ} {B g gs n:Nat} {K X ok:Nat->Prop} {r:RS} {v:Value} {w' w0 wr:World}
section
open Go.RowKit Go.Shelf
attribute [local go_sem ↓] Go.wp_at_zero Go.wp_at_succ
attribute [local go_sem] Oper.semAt_some
theorem endJ_b (d:JSb s x) (o:loadE m x.ch x.steps=0):JSb s (endJ m s x)/\loadE m (endJ m s x).ch (endJ m s x).steps=0:=
 allJ_b _ _ _ _ d o (allJ_last m s s.length x)
theorem open_b (o:BM m=0) (hid:id.length=8) (h:zG m (zr id) id s=some x):JSb s x/\loadE m x.ch x.steps=0/\0<=x.steps:=by
 unfold zG at h
 split at h
 ·rename_i hp
  injection h with h;have h0:loadE m (j0 id).ch (j0 id).steps=0:=(rinv_load (m:=m)).loadE o;have d:JSb s (j0 id):=⟨hp.length_le,(show BI 0 from ⟨by decide,by decide⟩),hid,(fun n D=>by cases D),Em _⟩;obtain ⟨h1,h2⟩:=endJ_b d h0;have e:x=endJ m s (j0 id):=h.symm;rw [<-e] at h1 h2;exact ⟨h1,h2,(CM h2).2.st⟩
 ·cases h
theorem recB_le {ch:List Int} {st:Int} (E:sg.length<=1000) (h:∀x∈ch,BI x) (d:BI st) (D:ch.length<=300):(zS sg ch st).length<=7000:=by
 have h1:=(body_len h d).1;have h2:=Br (s:=Bf ch st) (by omega);have h3:=Br (s:=zJ sg ch st) (by rw [Bb];omega);have o:=Bb sg ch st;unfold zS;rw [Eg];omega
theorem run_i64 (g:AG m) (h:RInv m r):(∀x∈r.ch,BI x)/\r.ch.length<=300:=by
 have d:=(h.ch.range g).1;have D:m.n<=300:=g.1.n1;exact ⟨fun x o=>by have:=d x o;exact ⟨by omega,by omega⟩,h.ch.len300 g⟩
structure RunI (w0 wr:World) (X K:Nat->Prop) (g B gs:Nat) (m:MZ) (r:RS) (out sg:List UInt8):Prop where
 rt:OneX w0 wr X g m r
 bu:BuiK K B (Lib.byteCells out) wr
 sl:Dj wr gs sg
 kx:∀k,K k->¬ X k/\w0.heap.size<=k/\k≠gs/\k<wr.heap.size
 gx:¬ X gs/\w0.heap.size<=gs
theorem RunI.ext {w0 wr:World} {X K:Nat->Prop} {g B gs:Nat} {m:MZ} {r:RS} {out sg:List UInt8} (h:RunI w0 wr X K g B gs m r out sg):za w0 wr:=h.rt.ext
theorem RunI.more {w0 wr w':World} {X K:Nat->Prop} {g B gs:Nat} {m:MZ} {r:RS} {out sg:List UInt8} (h:RunI w0 wr X K g B gs m r out sg) (o:za wr w'):RunI w0 w' X K g B gs m r out sg:=
 ⟨h.rt.more o,h.bu.chg (zC.of_ext (X:=fun _=>False) o) (fun _ _ h=>h),h.sl.ext o,fun k D=>by obtain ⟨a,b,c,d⟩:=h.kx k D;exact ⟨a,b,c,EA d o.size⟩,h.gx⟩
theorem RunI.step {w0 wr:World} {X K:Nat->Prop} {g B gs:Nat} {m:MZ} {r:RS} {out sg:List UInt8} (h:RunI w0 wr X K g B gs m r out sg) (n:Nat) (G:n<=1000000) (J:n=0\/r.steps<=3000000000000000000):
  Calls Tryz.prog 83 #[.pointer (some ⟨g,0,none⟩),.int .i64 n] wr fun e w'=>e=.returned (.bool (RS.run m n r).done)/\∃X',RunI w0 w' X' K g B gs m (RS.run m n r) out sg:=by
 refine (h.rt.step n G J).mono ?_;rintro e w' ⟨rfl,I,D⟩;refine ⟨rfl,_,I,h.bu.chg D (fun k E=>(h.kx k E).1),D.blk h.sl h.gx.1,fun k E=>?_,?_,h.gx.2⟩
 ·obtain ⟨a,b,c,d⟩:=h.kx k E;exact ⟨fun o=>o.elim a (fun o=>by omega),b,c,EA d D.size⟩
 ·have:=zc h.sl;exact fun o=>o.elim h.gx.1 (fun o=>by omega)
theorem RunI.seal {sg':List UInt8} (h:RunI w0 wr X K g B gs m r out sg) (D:zC (·=gs) wr w') (E:Dj w' gs sg'):RunI w0 w' X K g B gs m r out sg':=
 ⟨h.rt.other (fun k e=>by have:=h.gx.2;omega) (fun k o e=>h.gx.1 (by have e:k=gs:=e;rw [<-e];exact o)) D,h.bu.chg D (fun k o=>(h.kx k o).2.2.1),E,fun k o=>by obtain ⟨a,b,c,d⟩:=h.kx k o;exact ⟨a,b,c,EA d D.size⟩,h.gx⟩
theorem RunI.write {out':List UInt8} (h:RunI w0 wr X K g B gs m r out sg) (o:zC K wr w') (E:BuiK (fun b=>K b\/(wr.heap.size<=b/\b<w'.heap.size)) B (Lib.byteCells out') w'):
  RunI w0 w' X (fun b=>K b\/(wr.heap.size<=b/\b<w'.heap.size)) g B gs m r out' sg:=
 ⟨h.rt.other (fun k hk=>(h.kx k hk).2.1) (fun k hk D=>(h.kx k D).1 hk) o,E,o.blk h.sl (fun D=>(h.kx gs D).2.2.1 rfl),fun k hk=>by
  have I:=h.rt.ext.size;have G:=zc h.sl;rcases hk with hk | hk
  ·obtain ⟨a,b,c,d⟩:=h.kx k hk;exact ⟨a,b,c,EA d o.size⟩
  ·exact ⟨fun J=>by have:=h.rt.rt.xb k J;omega,by omega,by omega,hk.2⟩,h.gx⟩
noncomputable def runT (m:MZ) (id s:List UInt8) (n:Int):List UInt8×Bool×Int:=if BM m=0 then runF m (zr id) id s n else ([],false,BM m)
theorem runT_err (n:Int) (h:opT m id s=(x,er)) (he:er≠0):runT m id s n=([],false,er):=by
 unfold runT;rcases (opT_err h he).2 with ⟨h1,h2,h3⟩ | ⟨h1,h2⟩
 ·rw [if_pos h1,h3];unfold runF;rw [h2]
 ·rw [if_neg h1,h2]
def RunX (w:World) (p:List UInt8×Bool×Int) (e:Ending) (w':World):Prop:=e=.returned (.tuple #[.string ⟨p.1.toArray⟩,.bool p.2.1,.int .i64 p.2.2])/\za w w'
def JRunPost (w:World) (m:MZ) (id s:List UInt8) (n:Int) (e:Ending) (w':World):Prop:=
 e=.returned (.tuple #[.string ⟨(runF m (zr id) id s n).1.toArray⟩,.bool (runF m (zr id) id s n).2.1,.int .i64 (runF m (zr id) id s n).2.2])/\za w w'
theorem jRunT_calls (n:Int) (w:World) (hv:zq w) (h:JP w ok v m ns) (g9:s.length<=40000000) (hn:-1000<=n/\n<=1000):
  Calls Tryz.prog 32 #[v,.string ⟨s.toArray⟩,.int .i64 n] w (RunX w (runT m (BT (zw m ns)) s n)):=by
 obtain ⟨⟨x,er⟩,hp⟩:∃p,p=opT m (BT (zw m ns)) s:=⟨_,rfl⟩;have HO:Hid (∀W,za w W->Calls Tryz.prog 79 #[v,.string ⟨s.toArray⟩] W (OpX W (x,er))):=fun W hE=>by rw [hp];exact Du W (hv.ext hE) (h.below hE) g9
 have HV:=zh hv;have f5:=zh g9;have HN:=zh hn;have HM:=zh h.hm;have HL:=zh h.hl;obtain ⟨f,u,t,rfl,⟨_,⟨Af,cf,rfl,-,-⟩,-⟩,⟨Au,cu,rfl,-,-⟩,⟨-,_,⟨At,ct,rfl,-,-⟩,-⟩⟩:=_root_.id h.hm;have a9:(BT (zw m ns)).length=8:=AN _;obtain ⟨id,hid⟩:∃x,x=BT (zw m ns):=⟨_,rfl⟩;rw [<-hid] at hp a9⊢;have m8:=zh a9;have HP:=zh hp.symm;clear hv h g9 hn hid a9 hp
 go_enter Tryz.func32,Tryz.ntmps32
 go_upto_region 1 with fail;obtain ⟨c0,r0,r1,r2,r3,r4,r5⟩:=mz_box w m Af cf Au cu At ct;simp only [mzc] at c0 r0 r1 r2 r3 r4 r5;generalize w.alloc _=w2 at c0 r0 r1 r2 r3 r4 r5⊢;have b8:=zh c0;have o6:za w2 w2:=za.refl w2;clear c0
 go_wp2_with fail
 refine (HO.out _ b8.out).mono ?_;rintro e w3 ⟨vc,rfl,c6,j8⟩;have m6:=zh j8;have d7:za w2 w3:=c6;obtain ⟨Ac,cc,rfl,-,-⟩:=j8;simp only [jsc];have Q:za w3 (w3.alloc (.cells #[.slice Ac x.ch.length cc,.int .i64 x.steps,.int .i64 x.fin,.string ⟨x.sg.toArray⟩] 126)):=(za.refl w3).alloc _;by_cases d5:er=0
 rotate_left
 ·have HR:Hid (runT m id s n=([],false,er)):=runT_err n HP.out d5;have q7:(er != 0)=true:=by simp [d5]
  have J:=zh ((b8.out.trans d7).trans Q);clear c6 Q d5
  go_wp2_with fail
  refine ER (by simp [results,Tryz.results32,go_sem];rfl) rfl ⟨by rw [HR.out],J.out⟩
 ·subst d5;obtain ⟨d4,ho⟩:=opT_ok HP.out;have HC:=zh d4;have c9:runT m id s n=runF m (zr id) id s n:=by unfold runT;rw [if_pos d4]
  obtain ⟨hb,g5,h5⟩:=open_b HC.out m8.out ho;have b3:=hb.st.2;by_cases l6:n<0
  ·have HR:Hid (runT m id s n=([],false,1)):=by (show _=_);rw [c9];unfold runF;rw [ho];simp only;rw [if_pos l6]
   have J:=zh ((b8.out.trans d7).trans Q);clear c6 Q ho d4 c9 hb g5 h5 b3
   go_wp2_with fail
   refine ER (by simp [results,Tryz.results32,go_sem];rfl) rfl ⟨by rw [HR.out],J.out⟩
  ·obtain ⟨lim,b0⟩:∃l,l=min (20000 - x.steps) n:=⟨_,rfl⟩
   have HR:Hid (runT m id s n=(s.take x.fin++(runJ m x.steps lim lim.toNat (loadS m x.ch x.steps) x.sg).1,(runJ m x.steps lim lim.toNat (loadS m x.ch x.steps) x.sg).2.done,0)):=by
    (show _=_);rw [c9];unfold runF;rw [ho];simp only;rw [if_neg l6,b0]
   have G:Hid (-9223372036854775808<=lim/\lim<=1000/\x.steps+lim<=20000):=by have:=HN.out;exact ⟨by omega,by omega,by omega⟩
   have i6:=zh b0;have HB:=zh hb;have m9:=zh g5;have a2:Hid (0<=x.steps/\x.steps<=9223372036854775807):=⟨h5,b3⟩;clear c6 ho hb g5 h5 b3 b0 d4 c9;go_upto_region 6 with fail;have b9:=zl.new w3 #[.slice Ac x.ch.length cc,.int .i64 x.steps,.int .i64 x.fin,.string ⟨x.sg.toArray⟩] 126 (g:=w3.heap.size) rfl;generalize w3.alloc _=w4 at b9 Q⊢;generalize w3.heap.size=gx at b9⊢;generalize w.heap.size=gm at r0 r1 r2 r3 r4 r5⊢;have D:za w2 w4:=d7.trans Q;have r0:=fun W h=>r0 W (D.trans h)
   have r1:=fun W h=>r1 W (D.trans h)
   have r2:=fun W h=>r2 W (D.trans h)
   have r3:=fun W h=>r3 W (D.trans h)
   have r4:=fun W h=>r4 W (D.trans h)
   have r5:=fun W h=>r5 W (D.trans h)
   obtain ⟨k0,k1,k2,k3⟩:=z7 b9;have k0:=za.rule k0;have k1:=za.rule k1;have k2:=za.rule k2;have k3:=za.rule k3;have J:Hid (za w w4):=b8.out.trans D;have m7:=zh (m6.out.below Q);have j1:Hid (RInv m (loadS m x.ch x.steps)):=(CM m9.out).2
   have i5:Hid (Calls Tryz.prog 80 #[.agg #[.int .i64 m.w,.int .i64 m.h,.int .i64 m.l,.slice Af m.free.length cf,.slice Au m.up.length cu,.slice At m.tasks.length ct],.slice Ac x.ch.length cc,.int .i64 x.steps] w4 fun e w'=>∃g,e=.returned (.tuple #[.pointer (some ⟨g,0,none⟩),.int .i64 0])/\za w4 w'/\RtB w' (fun k=>w4.heap.size<=k/\k<w'.heap.size) (fun b=>b<w4.heap.size) g m (loadS m x.ch x.steps)):=
    loadB_calls (Y:=fun b=>b<w4.heap.size) (s:=loadS m x.ch x.steps) w4 (((HM.out.maze.bound).weaken fun b hb=>EA hb.2 J.out.size).below J.out) HL.out m7.out (by have:=HB.out.cl;have:=f5.out;show x.ch.length<=_;omega) (fun b hb=>hb) HC.out j1.out
   have hx:za w4 w4:=za.refl w4;clear D d7 Q b9 o6
   go_wp2_with fail
   refine i5.out.mono ?_;rintro e w5 ⟨g,rfl,f9,k4⟩;have i7:Hid (OneX w4 w5 (fun k=>w4.heap.size<=k/\k<w5.heap.size) g m (loadS m x.ch x.steps)):=⟨f9,k4,fun k hk=>hk.1,j1.out⟩;have h7:za w4 w5:=f9;clear f9 k4 i5 hx;go_upto_region 10 with fail;have a4:Hid (BuiK (fun b=>b=w5.heap.size) w5.heap.size (Lib.byteCells []) (w5.alloc (.cells #[.pointer none,.slice none 0 0] 134))):=BuiK.new w5;have c7:za w5 (w5.alloc (.cells #[.pointer none,.slice none 0 0] 134)):=(za.refl w5).alloc _;generalize w5.alloc _=w6 at a4 c7⊢;obtain ⟨B,f7⟩:=Fd w5.heap.size;rw [<-f7] at a4⊢;have i8:=zh (i7.out.more c7);have b6:Hid (B=w5.heap.size/\w4.heap.size<=B):=⟨f7,by have:=h7.size;omega⟩;have o7:za w4 w6:=h7.trans c7;have k7:x.fin<=s.length:=HB.out.fin;have k8:=f5.out;have e1:ByteArray.extract ⟨s.toArray⟩ 0 x.fin=⟨(s.take x.fin).toArray⟩:=ext_take s x.fin;have f2:Hid ((Lib.byteCells ([]:List UInt8)).length+(ByteArray.mk (s.take x.fin).toArray).size<=140737488355328):=CU (by simp;omega);clear f7 c7 h7
   go_wp2_with fail
   refine (wString_K ⟨(s.take x.fin).toArray⟩ a4.out f2.out).mono ?_;rintro e w7 ⟨rfl,f8,j7⟩;have h9:=zh (buiK_app (z:=s.take x.fin) j7 rfl);have f0:Hid (OneX w4 w7 (fun k=>w4.heap.size<=k/\k<w5.heap.size) g m (loadS m x.ch x.steps)):=i8.out.other (fun k e=>by have:=b6.out.2;omega) (fun k hk e=>by have:=b6.out.1;omega) f8;have n2:Hid (w6.heap.size<=w7.heap.size/\B<w6.heap.size):=⟨f8.size,a4.out.lt⟩;have h8:za w4 w7:=f0.out.ext;clear f8 j7 o7 e1 k7 k8 i8 a4 i7
   go_wp2_with fail
   refine (jSealer_calls x.sg w7).mono ?_;rintro e w8 ⟨rfl,a7,g1⟩
   have b7:Hid (RunI w4 w8 (fun k=>w4.heap.size<=k/\k<w5.heap.size) (fun b=>b=B\/(w6.heap.size<=b/\b<w7.heap.size)) g B w7.heap.size m (loadS m x.ch x.steps) (s.take x.fin) x.sg):=by
    have h1:=b6.out;have h2:=n2.out;have h3:=a7.size;have h4:=h8.size;refine ⟨f0.out.more a7,h9.out.chg (zC.of_ext (X:=fun _=>False) a7) (fun _ _ h=>h),g1,fun k hk=>⟨by omega,by omega,by omega,?_⟩,by omega,by omega⟩;have:=zc g1;omega
   obtain ⟨gs,k9⟩:∃g,g=w7.heap.size:=⟨_,rfl⟩;rw [<-k9] at b7⊢;have o8:za w4 w8:=h8.trans a7;have o5:IntKind.i64.wrap (20000 - x.steps)=20000 - x.steps:=by rw [Eu];have:=a2.out;omega
   clear a7 g1 h8 k9 h9 f0;go_upto_region 13 with fail;rw [<-i6.out];obtain ⟨rr,g8⟩:∃r,r=loadS m x.ch x.steps:=⟨_,rfl⟩;have l8:rr.steps=x.steps:=by rw [g8];rfl
   rw [<-g8] at b7 HR;have j3:Hid (Calls Tryz.prog 83 #[.pointer (some ⟨g,0,none⟩),.int .i64 0] w8 fun e w'=>e=.returned (.bool rr.done)/\∃X',RunI w4 w' X' (fun b=>b=B\/(w6.heap.size<=b/\b<gs)) g B gs m rr (s.take x.fin) x.sg):=b7.out.step 0 (by omega) (.inl rfl);obtain ⟨T,hT⟩:=Fd (s.take x.fin++(runJ m x.steps lim lim.toNat rr x.sg).1);obtain ⟨RF,g0⟩:∃R,R=(runJ m x.steps lim lim.toNat rr x.sg).2:=⟨_,rfl⟩;rw [<-hT,<-g0] at HR;have f3:=zh l8;have a3:Hid (s.take x.fin++(runJ m x.steps lim lim.toNat rr x.sg).1=T/\(runJ m x.steps lim lim.toNat rr x.sg).2=RF):=⟨hT.symm,g0.symm⟩
   have a5:Hid ((s.take x.fin).length+7000*lim.toNat<=47000000):=by
    (show _<=_)
    have h1:=G.out;have h2:=f5.out;have h3:=List.length_take_le x.fin s;have h4:(s.take x.fin).length<=s.length:=by rw [EQ];omega
    omega
   have a6:Hid (x.sg.length<=1000):=by (show _<=_);rw [HB.out.sg];omega
   clear g8 l8 hT g0 b7 o5 i6
   go_wp2_with fail
   refine j3.out.mono ?_;rintro e w9 ⟨rfl,X9,j9⟩;have i3:=zh j9;clear j9 o8 j3
   go_wp2_with fail
   clear r0 r1 r2 r3 r4 r5 k0 k2 k3
   go_loopg [15] (lim.toNat) (fun gk v15 wr=>∃(X K:Nat->Prop) (r:RS) (out sg:List UInt8),v15=.bool r.done/\x.steps<=r.steps/\r.steps<=x.steps+lim.toNat/\lim<=r.steps - x.steps+gk/\Hid (sg.length<=1000)/\Hid (out.length+7000*gk<=47000000)/\Hid (RunI w4 wr X K g B gs m r out sg)/\Hid (out++(runJ m x.steps lim gk r sg).1=T/\(runJ m x.steps lim gk r sg).2=RF))
   case atStart=>exact ⟨X9,_,rr,_,_,rfl,by have:=f3.out;omega,by have h1:=f3.out;have h2:=G.out;omega,by have h1:=f3.out;have h2:=G.out;omega,a6,a5,i3,a3⟩
   clear i3 a3 a5 a6
   case round=>
    obtain ⟨X,K,r,out,sg,rfl,o1,o2,o3,a6,a5,HI,a3⟩:=hrel;obtain ⟨wk,rfl⟩:∃wk:World,wk=wr:=⟨_,rfl⟩;have hx:za w4 wk:=HI.out.ext;have n6:=G.out;have n7:=a2.out;have h6:IntKind.i64.wrap (r.steps - x.steps)=r.steps - x.steps:=by rw [Eu];omega
    obtain ⟨d,hd⟩:=Fd r.done;rw [<-hd];have HD:=zh hd;have f4:Hid (∀W,za wk W->Calls Tryz.prog 84 #[.pointer (some ⟨g,0,none⟩)] W fun e w'=>e=.returned (.int .i64 r.steps)/\W=w'):=fun W h=>(HI.out.more h).rt.rt.stepsC
    clear hd;go_upto_region 14 with fail;go_cut [66] (fun v66 wc=>v66=.bool (!d && decide (r.steps - x.steps<lim))/\Hid (za wk wc))
    case first=>
     have d8:za wk wk:=za.refl wk;have hx:∀W,za wk W->W.cell? ⟨gx,1,none⟩=some (.int .i64 x.steps):=fun W h=>k1 W (hx.trans h)
     clear k1
     cases d with
     | true=>
      refine Eo (S:=(fun W=>za wk W)) AI (d8.drew) fun zH=>?_;generalize wk.drew=wd at zH⊢;refine z6 0 zH ?_;refine z6 1 zH ?_;simp only [zd,DV];refine z6 2 zH ?_;refine rtN 3 zH ?_;simp only [zd,DV];refine rtN 4 zH ?_;refine rtN 5 zH ?_;simp only [zd,DV];refine rtN 6 zH ?_;refine rtN 7 zH ?_;simp only [zd,DV];refine rtN 8 zH ?_;refine rtN 9 zH ?_;simp only [zd,DV];refine z6 10 zH ?_;simp only [zd,DV];refine EC (by kernel_rfl) ?_ _;have f6:=zh zH;clear zH hx d8 h6;go_wp2;go_meet;exact ⟨rfl,f6⟩
     | false=>
      refine Eo (S:=(fun W=>za wk W)) AI (d8.drew) fun zH=>?_;generalize wk.drew=wd at zH⊢;refine z6 0 zH ?_;refine z6 1 zH ?_;simp only [zd,DV];refine z6 2 zH ?_;refine z6 3 zH ?_;simp only [zd,DV];refine z6 5 zH ?_;refine z6 6 zH ?_;simp only [zd,DV];refine z6 8 zH ?_;simp only [zd,DV];refine AB 4 fun K hK=>?_;go_simp;go_at_call 84;refine (f4.out _ zH).mono ?_;rintro e wst ⟨rfl,rfl⟩;go_simp;refine Fe hK (zH) fun zH=>?_;clear hK K;try simp only [zd,DV]
      refine z6 7 zH ?_;refine z6 9 zH ?_;simp only [zd,DV];refine z6 10 zH ?_;simp only [zd,DV];refine EC (by kernel_rfl) ?_ _;have f6:=zh zH;clear zH hx d8 h6;go_wp2;go_meet;exact ⟨by simp,f6⟩
    case rest=>
     obtain ⟨rfl,a0⟩:=hcut;obtain ⟨w10,rfl⟩:∃w10:World,w10=wc:=⟨_,rfl⟩;have U:=zh (HI.out.more a0.out);clear hx h6;by_cases o:d=true\/lim<=r.steps - x.steps
     ·have b4:(!d && decide (r.steps - x.steps<lim))=false:=by
       rcases o with h | h
       ·rw [h];rfl
       ·rw [Ec (by omega),Bool.and_false]
      rw [b4]
      have d9:Hid (out=T/\r=RF):=by
       have h1:=a3.out;rw [runJ_stop (by rw [<-HD.out];exact o),List.append_nil] at h1;exact h1
      have m4:Hid (B<=w10.heap.size):=Nat.le_of_lt U.out.bu.lt;clear b4 o a3
      go_wp2_with fail
      refine (Dq U.out.bu.bui m4.out).mono ?_;rintro e w11 ⟨rfl,e9⟩
      have j6:Hid (za w w11):=by
       have h1:=J.out.trans U.out.ext;exact Below.trans h1 (e9.mono (by have h2:=b6.out.2;have h3:=J.out.size;omega))
      clear e9
      go_wp2_with fail
      refine ER (by simp [results,Tryz.results32,go_sem];rfl) rfl ⟨?_,j6.out⟩;rw [HR.out,HD.out,d9.out.1,d9.out.2]
     ·have g3:d=false:=by
       cases d with
       | true=>exact absurd (.inl rfl) o
       | false=>rfl
      have l4:r.steps - x.steps<lim:=by
       rcases Int.lt_or_le (r.steps - x.steps) lim with q | q
       ·exact q
       ·exact absurd (.inr q) o
      have b4:(!d && decide (r.steps - x.steps<lim))=true:=by rw [g3,Eb l4];rfl
      rw [b4];obtain ⟨q,hq⟩:=Fd (r.steps % 16);have n8:0<=q/\q<16:=by rw [hq];exact ⟨Int.emod_nonneg _ (by decide),Int.emod_lt_of_pos _ (by decide)⟩
      obtain ⟨n9,o0⟩:=n8;obtain ⟨kN,l2⟩:∃k:Nat,k=(min (16 - q) (lim - (r.steps - x.steps))).toNat:=⟨_,rfl⟩;have l1:(kN:Int)=min (16 - q) (lim - (r.steps - x.steps)):=by omega
      have l3:kN<=16/\0<kN/\(kN:Int)<=lim - (r.steps - x.steps):=by omega
      obtain ⟨r',b1⟩:∃r',r'=RS.run m kN r:=⟨_,rfl⟩;have d6:=Cq m kN r;rw [<-b1] at d6;have g6:=d6.2.2.2 (by rw [<-HD.out];exact g3) l3.2.1;have l0:=d6.2.1;have i4:Hid (RInv m r'):=by (show RInv _ _);rw [b1];exact HI.out.rt.inv.run kN
      obtain ⟨gk',g4⟩:∃f,gk=f+1:=⟨gk - 1,by omega⟩
      have i0:Hid (runJ m x.steps lim gk r sg=(zS sg r'.ch r'.steps++(runJ m x.steps lim gk' r' (zJ sg r'.ch r'.steps)).1,(runJ m x.steps lim gk' r' (zJ sg r'.ch r'.steps)).2)):=by
       (show _=_)
       rw [g4];exact runJ_go (by rw [<-HD.out];exact o) (by rw [<-hq,<-l2,b1])
      have I:Hid (x.steps<=r'.steps/\r'.steps<=x.steps+lim.toNat/\lim<=r'.steps - x.steps+gk'/\gk'<gk/\gk=gk'+1):=⟨by omega,by omega,by omega,by omega,g4⟩
      have j5:Hid (∀W,za wk W->Calls Tryz.prog 83 #[.pointer (some ⟨g,0,none⟩),.int .i64 (min (16 - q) (lim - (r.steps - x.steps)))] W fun e w'=>e=.returned (.bool r'.done)/\∃X',RunI w4 w' X' K g B gs m r' out sg):=fun W h=>by
       rw [<-l1,b1];exact (HI.out.more h).step kN (by omega) (by omega)
      have l5:r.steps.tmod 16=q:=by rw [hq];exact Int.tmod_eq_emod_of_nonneg (by omega)
      have w2a:IntKind.i64.wrap (r.steps - x.steps)=r.steps - x.steps:=by rw [Eu];omega
      have w2b:IntKind.i64.wrap q=q:=by rw [Eu];omega
      have w2c:IntKind.i64.wrap (16 - q)=16 - q:=by rw [Eu];omega
      have w2d:IntKind.i64.wrap (lim - (r.steps - x.steps))=lim - (r.steps - x.steps):=by rw [Eu];omega
      clear b4 o g3 l4 hq l2 l1 l3 b1 d6 g6 l0 g4 n6 n7 o1 o2 o3 n9 o0;go_upto_region 15 with fail;have hx:za w4 w10:=U.out.ext;have k5:w10.cell? ⟨gx,1,none⟩=some (.int .i64 x.steps):=k1 _ hx;go_cut [15] (fun v15 wc=>v15=.bool r'.done/\Hid (∃X',RunI w4 wc X' K g B gs m r' out sg))
      case first=>
       refine Di (fun Q' hP n3=>?_) (fun c a a' w hd h=>by obtain ⟨t,d⟩:=a;obtain ⟨t',d'⟩:=a';cases hd;exact h);refine AA (S:=(fun W=>W.cell? ⟨gx,1,none⟩=some (.int .i64 x.steps))) AI (k5) fun zH=>?_;have c8:za w10 w10.drew:=(za.refl w10).drew;generalize w10.drew=wd at zH c8⊢;refine ze (i:=0) (v:=?v22) rfl (by kernel_rfl) (by kernel_rfl) (by kernel_rfl) (by kernel_rfl) (fun _ _ _ h=>hP _ _ _ _ (by rfl) h) (Or.inl ⟨?w22,?y22⟩) zH ?r22
       case w22=>rfl
       case y22=>(intro w E;go_simp;try with_reducible rfl)
       simp only [zd,DV];refine ze (i:=1) (v:=?v23) rfl (by kernel_rfl) (by kernel_rfl) (by kernel_rfl) (by kernel_rfl) (fun _ _ _ h=>hP _ _ _ _ (by rfl) h) (Or.inl ⟨?w23,?y23⟩) zH ?r23
       case w23=>rfl
       case y23=>(intro w E;go_simp;try with_reducible rfl)
       simp only [zd,DV];refine ze (i:=5) (v:=?v24) rfl (by kernel_rfl) (by kernel_rfl) (by kernel_rfl) (by kernel_rfl) (fun _ _ _ h=>hP _ _ _ _ (by rfl) h) (Or.inl ⟨?w24,?y24⟩) zH ?r24
       case w24=>rfl
       case y24=>(intro w E;go_simp;try with_reducible rfl)
       simp only [zd,DV];refine ze (i:=6) (v:=?v25) rfl (by kernel_rfl) (by kernel_rfl) (by kernel_rfl) (by kernel_rfl) (fun _ _ _ h=>hP _ _ _ _ (by rfl) h) (Or.inl ⟨?w25,?y25⟩) zH ?r25
       case w25=>rfl
       case y25=>(intro w E;go_simp;try with_reducible rfl)
       simp only [zd,DV];refine ze (i:=8) (v:=?v26) rfl (by kernel_rfl) (by kernel_rfl) (by kernel_rfl) (by kernel_rfl) (fun _ _ _ h=>hP _ _ _ _ (by rfl) h) (Or.inl ⟨?w26,?y26⟩) zH ?r26
       case w26=>rfl
       case y26=>(intro w E;go_simp;try with_reducible rfl)
       simp only [zd,DV];refine ze (i:=9) (v:=?v27) rfl (by kernel_rfl) (by kernel_rfl) (by kernel_rfl) (by kernel_rfl) (fun _ _ _ h=>hP _ _ _ _ (by rfl) h) (Or.inl ⟨?w27,?y27⟩) zH ?r27
       case w27=>rfl
       case y27=>(intro w E;go_simp;try with_reducible rfl)
       simp only [zd,DV];refine zp (rs:=[2]) (by kernel_rfl) (by simp) ?_;refine zg.cons rfl (fun K hK=>?_) zg.nil;go_simp;go_at_call 84;refine (f4.out _ (a0.out.trans c8)).mono ?_;rintro e wst ⟨rfl,rfl⟩;go_simp;refine Fe hK (zH) fun zH=>?_;clear hK K;try simp only [zd,DV]
       refine ze (i:=3) (v:=?v28) rfl (by kernel_rfl) (by kernel_rfl) (by kernel_rfl) (by kernel_rfl) (fun _ _ _ h=>hP _ _ _ _ (by rfl) h) (Or.inl ⟨?w28,?y28⟩) zH ?r28
       case w28=>rfl
       case y28=>(intro w E;go_simp;try with_reducible rfl)
       simp only [zd,DV];refine ze (i:=4) (v:=?v29) rfl (by kernel_rfl) (by kernel_rfl) (by kernel_rfl) (by kernel_rfl) (fun _ _ _ h=>hP _ _ _ _ (by rfl) h) (Or.inl ⟨?w29,?y29⟩) zH ?r29
       case w29=>rfl
       case y29=>(intro w E;go_simp;try with_reducible rfl)
       simp only [zd,DV];refine zp (rs:=[7]) (by kernel_rfl) (by simp) ?_;refine zg.cons rfl (fun K hK=>?_) zg.nil;go_simp;go_at_call 84;refine (f4.out _ (a0.out.trans c8)).mono ?_;rintro e wst ⟨rfl,rfl⟩;go_simp;refine Fe hK (zH) fun zH=>?_;clear hK K;try simp only [zd,DV]
       refine ze (i:=10) (v:=?v30) rfl (by kernel_rfl) (by kernel_rfl) (by kernel_rfl) (by kernel_rfl) (fun _ _ _ h=>hP _ _ _ _ (by rfl) h) (Or.inl ⟨?w30,?y30⟩) zH ?r30
       case w30=>rfl
       case y30=>(intro w E;go_simp;try with_reducible rfl)
       simp only [zd,DV];refine ze (i:=11) (v:=?v31) rfl (by kernel_rfl) (by kernel_rfl) (by kernel_rfl) (by kernel_rfl) (fun _ _ _ h=>hP _ _ _ _ (by rfl) h) (Or.inl ⟨?w31,?y31⟩) zH ?r31
       case w31=>rfl
       case y31=>(intro w E;go_simp;try with_reducible rfl)
       simp only [zd,DV];refine ze (i:=12) (v:=?v32) rfl (by kernel_rfl) (by kernel_rfl) (by kernel_rfl) (by kernel_rfl) (fun _ _ _ h=>hP _ _ _ _ (by rfl) h) (Or.inl ⟨?w32,?y32⟩) zH ?r32
       case w32=>rfl
       case y32=>(intro w E;go_simp;try with_reducible rfl)
       simp only [zd,DV];refine zp (rs:=[13]) (by kernel_rfl) (by simp) ?_;refine zg.cons rfl (fun K hK=>?_) zg.nil;go_simp;go_at_call 83;refine (j5.out _ (a0.out.trans c8)).mono ?_;rintro e w13 ⟨rfl,X13,e6⟩;have O:=zh e6;clear e6;go_simp;refine Fe hK (k1 _ O.out.ext) fun zH=>?_;clear hK K;try simp only [zd,DV]
       refine zp (rs:=[14]) (by kernel_rfl) (by simp) ?_;refine zg.last rfl (by kernel_rfl) fun K hK=>?_;go_simp;go_simp;refine hK.out _ _ ?_;clear hK K;refine AV (by kernel_rfl) ?_ _;subst n3;go_wp2;go_meet;exact ⟨rfl,X13,O.out⟩
      case rest=>
       obtain ⟨rfl,M⟩:=hcut;obtain ⟨X',e5⟩:=M.out;obtain ⟨w11,rfl⟩:∃w11:World,w11=wc:=⟨_,rfl⟩;have M:=zh e5;clear e5 hx k5 l5 w2a w2b w2c w2d;have hi:=run_i64 M.out.rt.rt.good i4.out;have e0:=zh hi;have g7:=recB_le (sg:=sg) (ch:=r'.ch) (st:=r'.steps) a6.out hi.1 ⟨by have:=I.out;have:=a2.out;omega,by have:=I.out;have:=G.out;have:=a2.out;omega⟩ hi.2;obtain ⟨rec,b2⟩:∃x,x=zS sg r'.ch r'.steps:=⟨_,rfl⟩;rw [<-b2] at g7 i0;have i9:=zh b2;have j2:=zh g7;clear hi g7 b2
       go_wp2_with fail
       refine M.out.rt.rt.choices.mono ?_;rintro e w12 ⟨vch,rfl,hM⟩;have V:=zh (M.out.more hM.ext);have m5:=zh hM.ints;obtain ⟨Ah,ch,rfl,-⟩:=hM.slice;clear hM
       go_wp2_with fail
       refine V.out.rt.rt.stepsC.mono ?_;rintro e wb ⟨rfl,rfl⟩
       go_wp2_with fail
       refine (jSeal_calls w12 (HV.out.ext (J.out.trans V.out.ext)) V.out.sl a6.out m5.out e0.out.1 (by have:=e0.out.2;omega) ⟨by have:=I.out;have:=a2.out;omega,by have:=I.out;have:=G.out;have:=a2.out;omega⟩).mono ?_;rintro e w13 ⟨rfl,e3,e7,-⟩;rw [<-i9.out];have O:=zh (V.out.seal e3 e7);have f2:Hid ((Lib.byteCells out).length+(ByteArray.mk rec.toArray).size<=140737488355328):=CU (by have h1:=j2.out;have h2:=a5.out;omega);clear e3 e7
       go_wp2_with fail
       refine (wString_K ⟨rec.toArray⟩ O.out.bu f2.out).mono ?_;rintro e w14 ⟨rfl,e4,e2⟩;have i2:=zh (O.out.write e4 (buiK_app (z:=out++rec) e2 rfl));clear e4 e2
       have n1:Hid ((out++rec)++(runJ m x.steps lim gk' r' (zJ sg r'.ch r'.steps)).1=T/\(runJ m x.steps lim gk' r' (zJ sg r'.ch r'.steps)).2=RF):=by
        have h1:=a3.out;rw [i0.out] at h1;exact ⟨by rw [List.append_assoc];exact h1.1,h1.2⟩
       have j4:Hid ((zJ sg r'.ch r'.steps).length<=1000):=by (show _<=_);rw [Bb];omega
       have n0:Hid ((out++rec).length+7000*gk'<=47000000):=by (show _<=_);have h1:=j2.out;have h2:=a5.out;have h3:=I.out.2.2.2.2;rw [Eg];omega
       go_wp2
       go_roundg gk'
       case measure=>exact I.out.2.2.2.1
       case rel=>exact ⟨_,_,r',out++rec,_,rfl,I.out.1,I.out.2.1,I.out.2.2.1,j4.out,n0.out,i2.out,n1.out⟩
theorem jRun_calls (n:Int) (w:World) (J:zq w) (hm:Bt w ok v m ns) (I:CF m ns) (E:Lens m) (D:BM m=0) (d:s.length<=40000000) (G:-1000<=n/\n<=1000)
  (M:∀x,zG m (zr (BT (zw m ns))) (BT (zw m ns)) s=some x->x.steps<=20000):
  Calls Tryz.prog 32 #[v,.string ⟨s.toArray⟩,.int .i64 n] w (JRunPost w m (BT (zw m ns)) s n):=by
 refine (jRunT_calls n w J ⟨hm,E,fun _=>I⟩ d G).mono ?_;rintro e w' ⟨rfl,o⟩;unfold runT;rw [if_pos D];exact ⟨rfl,o⟩
noncomputable def resF (m:MZ) (h id s:List UInt8):List (List Int)×PT×Int:=match zG m h id s with
 | none=>([],.zero,4)
 | some x=>if zV m x.ch=true then (foundL m x.ch,.zero,0) else if (loadS m x.ch x.steps).done=false then ([],.zero,53) else if (Bg m).1≠0 then ([],.zero,(Bg m).1) else ([],(Bg m).2,54)
def ResPost (w:World) (m:MZ) (id s:List UInt8) (e:Ending) (w':World):Prop:=
 ∃vp vr,e=.returned (.tuple #[vp,vr,.int .i64 (resF m (zr id) id s).2.2])/\za w w'/\Aa w' (fun b=>w.heap.size<=b) vp (resF m (zr id) id s).1/\DG w' (fun b=>w.heap.size<=b) vr (resF m (zr id) id s).2.1
noncomputable def resT (m:MZ) (id s:List UInt8):List (List Int)×PT×Int:=if BM m=0 then resF m (zr id) id s else ([],.zero,BM m)
theorem resT_err (h:opT m id s=(x,er)) (he:er≠0):resT m id s=([],.zero,er):=by
 unfold resT;rcases (opT_err h he).2 with ⟨h1,h2,h3⟩ | ⟨h1,h2⟩
 ·rw [if_pos h1,h3];unfold resF;rw [h2]
 ·rw [if_neg h1,h2]
def ResX (w:World) (p:List (List Int)×PT×Int) (e:Ending) (w':World):Prop:=∃vp vr,e=.returned (.tuple #[vp,vr,.int .i64 p.2.2])/\za w w'/\Aa w' (fun b=>w.heap.size<=b) vp p.1/\DG w' (fun b=>w.heap.size<=b) vr p.2.1
def MakeC (w:World) (v:Value) (m:MZ):Prop:=∀W,za w W->Calls Tryz.prog 55 #[v] W fun e w'=>∃v',e=.returned (.tuple #[v',.int .i64 (Bg m).1])/\za W w'/\DG w' (fun b=>W.heap.size<=b) v' (Bg m).2
theorem res_fin {w wq:World} {gp:Nat} {x y z vp a0 a1 a2:Value} {n:Int} {p:PT} {ps:List (List Int)} {a:Act} (M:za w wq) (U:w.heap.size<=gp) (d:zl wq gp 41 #[a0,a1,a2])
  (Q:Aa wq (fun b=>w.heap.size<=b/\b≠gp) vp ps) (hp:DG wq (fun b=>w.heap.size<=b/\b≠gp) (.agg #[x,y,z]) p) (E:resT m id s=(ps,p,n))
  (G:a.tmps[4]?=some vp) (I:a.tmps[5]?=some (.pointer (some ⟨gp,0,none⟩))) (J:a.tmps[6]?=some (.int .i64 n)) (O:a.defers=[]):
  bodyPost Tryz.prog Tryz.f71 (ResX w (resT m id s)) Exit.ret a (((wq.setCell ⟨gp,0,none⟩ x).setCell ⟨gp,1,none⟩ y).setCell ⟨gp,2,none⟩ z):=by
 have o:=((d.set (k:=0) x).set (k:=1) y).set (k:=2) z;have D:zC (fun b=>b=gp) wq (((wq.setCell ⟨gp,0,none⟩ x).setCell ⟨gp,1,none⟩ y).setCell ⟨gp,2,none⟩ z):=(((zC.refl (fun b=>b=gp) _).set gp 0 _ rfl).set gp 1 _ rfl).set gp 2 _ rfl;generalize ((wq.setCell ⟨gp,0,none⟩ x).setCell ⟨gp,1,none⟩ y).setCell ⟨gp,2,none⟩ z=WZ at o D⊢;have c0:WZ.cell? ⟨gp,0,none⟩=some x:=o.cell (k:=0) rfl;have c1:WZ.cell? ⟨gp,1,none⟩=some y:=o.cell (k:=1) rfl;have c2:WZ.cell? ⟨gp,2,none⟩=some z:=o.cell (k:=2) rfl;have e4:a.tmps.getD 4 undef=vp:=by rw [Array.getD_eq_getD_getElem?,G];rfl
 have e5:a.tmps.getD 5 undef=.pointer (some ⟨gp,0,none⟩):=by rw [Array.getD_eq_getD_getElem?,I];rfl
 have e6:a.tmps.getD 6 undef=.int .i64 n:=by rw [Array.getD_eq_getD_getElem?,J];rfl
 refine ER (v:=.tuple #[vp,.agg #[x,y,z],.int .i64 n]) (by simp [results,Tryz.results71,go_sem,G,I,J,e4,e5,e6,c0,c1,c2]) O ⟨vp,_,by rw [E],Below.trans M (D.below M.size fun b e=>by omega),?_,?_⟩
 ·rw [E];exact (Q.keep (D.same fun b d e=>d.2 e)).weaken fun b d=>d.1
 ·rw [E];exact hp.keepW (D.same fun b d e=>d.2 e) fun b d=>d.1
theorem jResultT_calls (w:World) (hv:zq w) (h:JP w ok v m ns) (e6:s.length<=40000000)
  (e5:BM m=0->∀x,zG m (zr (BT (zw m ns))) (BT (zw m ns)) s=some x->zV m x.ch=false->(loadS m x.ch x.steps).done=true->MakeC w v m):
  Calls Tryz.prog 71 #[v,.string ⟨s.toArray⟩] w (ResX w (resT m (BT (zw m ns)) s)):=by
 obtain ⟨⟨x,er⟩,hp⟩:∃p,p=opT m (BT (zw m ns)) s:=⟨_,rfl⟩;have HO:Hid (∀W,za w W->Calls Tryz.prog 79 #[v,.string ⟨s.toArray⟩] W (OpX W (x,er))):=fun W hE=>by rw [hp];exact Du W (hv.ext hE) (h.below hE) e6
 have i0:=zh e6;have HM:=zh h.hm;have HL:=zh h.hl;obtain ⟨f,u,t,rfl,⟨_,⟨Af,cf,rfl,-,-⟩,-⟩,⟨Au,cu,rfl,-,-⟩,⟨-,_,⟨At,ct,rfl,-,-⟩,-⟩⟩:=_root_.id h.hm;have a2:(BT (zw m ns)).length=8:=AN _;obtain ⟨id,hid⟩:∃x,x=BT (zw m ns):=⟨_,rfl⟩;rw [<-hid] at hp a2 e5⊢;have h6:=zh a2;have d5:=zh e5;have HP:=zh hp.symm;clear hv h e6 hid a2 e5 hp
 go_enter Tryz.func71,Tryz.ntmps71
 go_upto_region 1 with fail;obtain ⟨b3,r0,r1,r2,r3,r4,r5⟩:=mz_box w m Af cf Au cu At ct;have c7:(w.alloc (.cells (mzc m Af cf Au cu At ct) 32)).heap.size=w.heap.size+1:=by simp
 simp only [mzc] at b3 r0 r1 r2 r3 r4 r5 c7;generalize w.alloc _=w1 at b3 r0 r1 r2 r3 r4 r5 c7⊢;have J:=zl.new w1 #[.int .i64 0,.slice none 0 0,.slice none 0 0] 41 (g:=w1.heap.size) rfl;have o:za w1 (w1.alloc (.cells #[.int .i64 0,.slice none 0 0,.slice none 0 0] 41)):=(za.refl w1).alloc _;generalize w1.alloc _=w2 at J o⊢;rw [c7] at J;obtain ⟨gp,g1⟩:∃g,g=w.heap.size+1:=⟨_,rfl⟩;rw [<-g1] at J⊢;have a5:=zh J;have G:Hid (w.heap.size<=gp/\gp<w2.heap.size):=⟨by omega,zc J⟩;have E:Hid (za w w2):=b3.trans o;have r0:=fun W h=>r0 W (o.trans h)
 have r1:=fun W h=>r1 W (o.trans h)
 have r2:=fun W h=>r2 W (o.trans h)
 have r3:=fun W h=>r3 W (o.trans h)
 have r4:=fun W h=>r4 W (o.trans h)
 have r5:=fun W h=>r5 W (o.trans h)
 have g5:za w2 w2:=za.refl w2;clear b3 o c7 J g1
 go_wp2_with fail
 refine (HO.out _ E.out).mono ?_;rintro e w3 ⟨vc,rfl,d9,f8⟩;have g8:=zh f8;have b9:za w2 w3:=d9;obtain ⟨Ac,cc,rfl,-,-⟩:=f8;simp only [jsc];have M:za w3 (w3.alloc (.cells #[.slice Ac x.ch.length cc,.int .i64 x.steps,.int .i64 x.fin,.string ⟨x.sg.toArray⟩] 126)):=(za.refl w3).alloc _;by_cases D:er=0
 rotate_left
 ·have HR:Hid (resT m id s=([],.zero,er)):=resT_err HP.out D;have O:(er != 0)=true:=by simp [D]
  have f5:=zh (b9.trans M);have Q:=zh (a5.out.ext f5.out);have z0:=Q.out.cell (k:=0) rfl;have z1:=Q.out.cell (k:=1) rfl;have z2:=Q.out.cell (k:=2) rfl;have fz:=fun j=>Q.out.frozen j
  clear d9 M D g5 b9
  go_wp2_with fail
  exact res_fin (E.out.trans f5.out) G.out.1 Q.out (intss_nil _ _) (DG.zero _ _) HR.out rfl rfl rfl rfl
 ·subst D;obtain ⟨b8,ho⟩:=opT_ok HP.out;have HC:=zh b8;obtain ⟨hb,g3,i6⟩:=open_b HC.out h6.out ho;have d5:=zh (d5.out b8 x ho);have a9:Hid (resT m id s=if zV m x.ch=true then (foundL m x.ch,.zero,0) else if (loadS m x.ch x.steps).done=false then ([],.zero,53) else if (Bg m).1≠0 then ([],.zero,(Bg m).1) else ([],(Bg m).2,54)):=by (show _=_);unfold resT;rw [if_pos b8];unfold resF;rw [ho]
  have HB:=zh hb;have h7:=zh g3;clear d9 ho hb g3 i6 b8;go_upto_region 4 with fail;have b2:=zl.new w3 #[.slice Ac x.ch.length cc,.int .i64 x.steps,.int .i64 x.fin,.string ⟨x.sg.toArray⟩] 126 (g:=w3.heap.size) rfl;generalize w3.alloc _=w4 at b2 M⊢;generalize w3.heap.size=gx at b2⊢;generalize w.heap.size=gm at r0 r1 r2 r3 r4 r5⊢;have c0:za w2 w4:=b9.trans M;obtain ⟨k0,k1,k2,k3⟩:=z7 b2;have f4:Hid (za w w4):=E.out.trans c0;have HZ:Hid (w2.heap.size<=w4.heap.size):=c0.size;have h4:=zh (g8.out.below M);have f3:Hid (RInv m (loadS m x.ch x.steps)):=(CM h7.out).2
  have e9:Hid (Calls Tryz.prog 80 #[.agg #[.int .i64 m.w,.int .i64 m.h,.int .i64 m.l,.slice Af m.free.length cf,.slice Au m.up.length cu,.slice At m.tasks.length ct],.slice Ac x.ch.length cc,.int .i64 x.steps] w4 fun e w'=>∃g,e=.returned (.tuple #[.pointer (some ⟨g,0,none⟩),.int .i64 0])/\za w4 w'/\RtB w' (fun k=>w4.heap.size<=k/\k<w'.heap.size) (fun b=>b<w4.heap.size) g m (loadS m x.ch x.steps)):=
   loadB_calls (Y:=fun b=>b<w4.heap.size) (s:=loadS m x.ch x.steps) w4 (((HM.out.maze.bound).weaken fun b hb=>EA hb.2 f4.out.size).below f4.out) HL.out h4.out (by have:=HB.out.cl;have:=i0.out;show x.ch.length<=_;omega) (fun b hb=>hb) HC.out f3.out
  clear b9 M b2 g5 k2 k3
  go_wp2_with fail
  refine e9.out.mono ?_;rintro e w5 ⟨g,rfl,e0,g0⟩;have f0:Hid (OneX w4 w5 (fun k=>w4.heap.size<=k/\k<w5.heap.size) g m (loadS m x.ch x.steps)):=⟨e0,g0,fun k hk=>hk.1,f3.out⟩;have e7:za w2 w5:=c0.trans e0;have e8:=zh f0.out.rt.found;clear e0 g0 e9 c0 k0 k1;obtain ⟨cb,O⟩:∃b,b=zV m x.ch:=⟨_,rfl⟩
  go_wp2_with fail
  refine e8.out.mono ?_;rintro e w6 ⟨vp,rfl,e1,a1⟩;rw [show zV m (loadS m x.ch x.steps).ch=cb from O.symm];have a1:Aa w6 (fun b=>w5.heap.size<=b) vp (foundL m x.ch):=a1;obtain ⟨_,⟨Ap,cp,rfl,-,-⟩,-⟩:=_root_.id a1;have h5:=zh a1;have f1:=zh (f0.out.more e1);have a4:za w2 w6:=e7.trans e1;have i1:=zh e7;have U:=zh (a5.out.ext a4);clear e1 a1 e7 e8
  cases cb with
  | true=>
   have HR:Hid (resT m id s=(foundL m x.ch,.zero,0)):=by (show _=_);rw [a9.out,if_pos O.symm]
   have z0:=U.out.cell (k:=0) rfl;have z1:=U.out.cell (k:=1) rfl;have z2:=U.out.cell (k:=2) rfl;have fz:=fun j=>U.out.frozen j
   have b0:=zh a4;clear O a4
   go_wp2_with fail
   refine res_fin (E.out.trans b0.out) G.out.1 U.out (h5.out.weaken fun b hb=>?_) (DG.zero _ _) HR.out rfl rfl rfl rfl;have h1:=G.out;have h2:=i1.out.size;have h3:=E.out.size;omega
  | false=>
   obtain ⟨dn,e3⟩:∃b,b=(loadS m x.ch x.steps).done:=⟨_,rfl⟩
   have c8:Hid (Calls Tryz.prog 83 #[.pointer (some ⟨g,0,none⟩),.int .i64 0] w6 fun e w'=>e=.returned (.bool dn)/\zC (fun k=>w4.heap.size<=k/\k<w5.heap.size) w6 w'):=by
    rw [e3];exact (f1.out.step 0 (by omega) (.inl rfl)).mono fun e w' h=>⟨h.1,h.2.2⟩
   have i3:Hid (w2.heap.size<=w4.heap.size/\w4.heap.size<=w6.heap.size):=by
    have h1:=f1.out.ext.size;have h2:=G.out;exact ⟨HZ.out,h1⟩
   have a6:=zh O;have a7:=zh e3;have b0:=zh a4;clear O e3
   go_wp2_with fail
   refine c8.out.mono ?_;rintro e w7 ⟨rfl,f6⟩;have c6:za w2 w7:=Below.trans b0.out (f6.below b0.out.size (fun b hb=>by have:=i3.out;omega));have b1:=zh c6;have V:=zh (a5.out.ext c6);have z0:=V.out.cell (k:=0) rfl;have z1:=V.out.cell (k:=1) rfl;have z2:=V.out.cell (k:=2) rfl;have fz:=fun j=>V.out.frozen j
   clear f6 c8 a4
   cases dn with
   | false=>
    have HR:Hid (resT m id s=([],.zero,53)):=by (show _=_);rw [a9.out,if_neg (by rw [<-a6.out];simp),if_pos a7.out.symm]
    clear c6
    go_wp2_with fail
    exact res_fin (E.out.trans b1.out) G.out.1 V.out (intss_nil _ _) (DG.zero _ _) HR.out rfl rfl rfl rfl
   | true=>
    have d4:=zh (d5.out a6.out.symm a7.out.symm w7 (E.out.trans b1.out));obtain ⟨er,e4⟩:∃e,e=(Bg m).1:=⟨_,rfl⟩;rw [<-e4] at d4;have c9:=zh e4;clear e4 z0 z1 z2 fz
    go_wp2_with fail
    refine d4.out.mono ?_;rintro e w8 ⟨vq,rfl,f7,e2⟩;obtain ⟨As,cs,Ak,ck,rfl,-⟩:=e2.form;have h8:Hid (DG w8 (fun b=>w.heap.size<=b/\b≠gp) _ (Bg m).2):=e2.wk fun b hb _=>by have h1:=G.out;have h2:=b1.out.size;have h3:=E.out.size;omega
    have d6:Hid (za w2 w8):=b1.out.trans f7;have b4:za w8 (w8.alloc (.cells #[.int .i64 (Bg m).2.task,.slice As (Bg m).2.side.length cs,.slice Ak (Bg m).2.kids.length ck] 41)):=(za.refl w8).alloc _;have I:=zh (a5.out.ext (d6.out.trans b4));have d7:Hid (za w2 _):=d6.out.trans b4;have z0:=I.out.cell (k:=0) rfl;have z1:=I.out.cell (k:=1) rfl;have z2:=I.out.cell (k:=2) rfl;have fz:=fun j=>I.out.frozen j
    clear e2 f7 d4 c6;by_cases D:er=0
    ·have i5:(er != 0)=false:=by simp [D]
     have HR:Hid (resT m id s=([],(Bg m).2,54)):=by (show _=_);rw [a9.out,if_neg (by rw [<-a6.out];simp),if_neg (by rw [<-a7.out];simp),if_neg (by rw [<-c9.out,D];simp)]
     clear D;have d8:=zl.new w8 #[.int .i64 (Bg m).2.task,.slice As (Bg m).2.side.length cs,.slice Ak (Bg m).2.kids.length ck] 41 (g:=w8.heap.size) rfl;have g4:gp≠w8.heap.size:=by have h1:=G.out;have h2:=d6.out.size;omega
     have f2:=zh (h8.out.ext b4);clear z0 z1 z2 fz;go_upto_region 15 with fail;generalize w8.alloc _=w9 at I d7 f2 d8 b4⊢;generalize w8.heap.size=g9 at d8 g4⊢;have a3:g9≠gp:=fun e=>g4 e.symm
     have g7:Hid (zl w9.drew g9 41 #[.int .i64 (Bg m).2.task,.slice As (Bg m).2.side.length cs,.slice Ak (Bg m).2.kids.length ck]):=d8;refine Di (fun Q' hP i4=>?_) (fun c a a' w hd h=>by obtain ⟨t,d⟩:=a;obtain ⟨t',d'⟩:=a';cases hd;exact h);refine AA (S:=(fun W=>zl W g9 41 #[.int .i64 (Bg m).2.task,.slice As (Bg m).2.side.length cs,.slice Ak (Bg m).2.kids.length ck])) AI (g7.out) fun zH=>?_;have b5:za w9 w9.drew:=(za.refl w9).drew;generalize w9.drew=wd at zH b5⊢;have a0:=zh (I.out.ext b5);have i2:Hid (za w2 wd):=d7.out.trans b5;have h9:=zh (f2.out.ext b5);refine ze (i:=0) (v:=?v1) rfl (by kernel_rfl) (by kernel_rfl) (by kernel_rfl) (by kernel_rfl) (fun _ _ _ h=>hP _ _ _ _ (by rfl) h) (Or.inl ⟨?w1,?y1⟩) zH ?r1
     case w1=>rfl
     case y1=>(intro w b6;have q0:=zl.cell (k:=0) b6 rfl;have q1:=zl.cell (k:=1) b6 rfl;have q2:=zl.cell (k:=2) b6 rfl;go_simp;try with_reducible rfl)
     simp only [zd,DV];refine ze (i:=1) (v:=?v2) rfl (by kernel_rfl) (by kernel_rfl) (by kernel_rfl) (by kernel_rfl) (fun _ _ _ h=>hP _ _ _ _ (by rfl) h) (Or.inl ⟨?w2,?y2⟩) zH ?r2
     case w2=>rfl
     case y2=>(intro w b6;go_simp;try with_reducible rfl)
     simp only [zd,DV];refine zp (rs:=[2]) (by kernel_rfl) (by simp) ?_;refine zg.cons rfl (fun K hK=>?_) zg.nil;go_simp;have z0:=a0.out.cell (k:=0) rfl;have z1:=a0.out.cell (k:=1) rfl;have z2:=a0.out.cell (k:=2) rfl;have fz:=fun j=>a0.out.frozen j
     go_simp;clear z0 z1 z2 fz;go_simp;refine Fe hK (((zl.setOther (a:=⟨gp,0,none⟩) zH a3 _).setOther (a:=⟨gp,1,none⟩) a3 _).setOther (a:=⟨gp,2,none⟩) a3 _) fun zH=>?_;clear hK K;try simp only [zd,DV]
     refine zp (rs:=[3]) (by kernel_rfl) (by simp) ?_;refine zg.last rfl (by kernel_rfl) fun K hK=>?_;go_simp;go_simp;refine hK.out _ _ ?_;clear hK K;refine AV (by kernel_rfl) ?_ _;subst i4;go_wp2;exact res_fin (E.out.trans i2.out) G.out.1 a0.out (intss_nil _ _) h9.out HR.out rfl rfl rfl rfl
    ·have i5:(er != 0)=true:=by simp [D]
     have HR:Hid (resT m id s=([],.zero,er)):=by (show _=_);rw [a9.out,if_neg (by rw [<-a6.out];simp),if_neg (by rw [<-a7.out];simp),if_pos (by rw [<-c9.out];exact D),c9.out]
     clear D
     go_wp2_with fail
     exact res_fin (E.out.trans d7.out) G.out.1 I.out (intss_nil _ _) (DG.zero _ _) HR.out rfl rfl rfl rfl
theorem jResult_calls (w:World) (I:zq w) (hm:Bt w ok v m ns) (G:CF m ns) (E:Lens m) (D:BM m=0) (o:s.length<=40000000)
  (J:∀x,zG m (zr (BT (zw m ns))) (BT (zw m ns)) s=some x->x.steps<=20000)
  (d:∀x,zG m (zr (BT (zw m ns))) (BT (zw m ns)) s=some x->zV m x.ch=false->(loadS m x.ch x.steps).done=true->MakeC w v m):
  Calls Tryz.prog 71 #[v,.string ⟨s.toArray⟩] w (ResPost w m (BT (zw m ns)) s):=by
 refine (jResultT_calls w I ⟨hm,E,fun _=>G⟩ o fun _=>d).mono ?_;rintro e w' ⟨vp,vr,rfl,h⟩;unfold resT at h⊢;rw [if_pos D] at h⊢;exact ⟨vp,vr,rfl,h⟩
end
section
open Go.RowKit Go.Shelf
attribute [local go_sem ↓] Go.wp_at_zero Go.wp_at_succ
def zM:MZ:=⟨3,1,1,[[true,true,true]],[false,false,false],[([0],[2])]⟩
def zN:List ByteArray:=[⟨#[97]⟩]
def zD:List UInt8:=[51,59,49,59,49,59,49,59,49,58,97,91,48,59,93,91,50,59,93,49,59,51,58,49,49,49,51,58,48,48,48]
theorem z_desc:zw zM zN=zD:=by decide +kernel
theorem z_chk:BM zM=0:=by decide +kernel
theorem z_good:AG zM:=AG.of z_chk
theorem z_lens:Lens zM:=⟨by simp [zM],by simp [zM],by simp [zM],fun t ht=>by
 simp only [zM,EM,EU,or_false] at ht;rcases ht with rfl;simp⟩
theorem z_small:CF zM zN:=⟨by simp [zM],by simp [zM],by simp [zM],by simp [zM],by simp [zM,zN],fun t ht=>by
  simp only [zM,EM,EU,or_false] at ht;rcases ht with rfl;refine ⟨by simp,by simp,fun n d=>?_⟩;simp at d;rcases d with rfl | rfl <;> exact ⟨by decide,by decide⟩,fun s o=>by
  simp only [zN,EM,EU,or_false] at o;rcases o with rfl;decide,by simp [zM],fun f hf=>by
  simp only [zM,EM,EU,or_false] at hf;rcases hf with rfl;simp,by simp [zM]⟩
theorem z_start:loadS zM [] 0=⟨[],false,0⟩:=by
 have h:zV zM []=false:=by decide +kernel
 unfold loadS;rw [h];rfl
theorem z_run2:RS.run zM 2 ⟨[],false,0⟩=⟨[0,1],false,2⟩:=by
 rw [run_x z_good.dim];have h:(RS.runX zM 2 ⟨[],false,0⟩).ch=[0,1]/\(RS.runX zM 2 ⟨[],false,0⟩).done=false/\(RS.runX zM 2 ⟨[],false,0⟩).steps=2:=by decide +kernel
 generalize RS.runX zM 2 ⟨[],false,0⟩=s at h;obtain ⟨c,d,n⟩:=s;obtain ⟨rfl,rfl,rfl⟩:=h;rfl
theorem z_run9:RS.run zM 9 ⟨[],false,0⟩=⟨[0,1,2],true,3⟩:=by
 rw [run_x z_good.dim];have h:(RS.runX zM 9 ⟨[],false,0⟩).ch=[0,1,2]/\(RS.runX zM 9 ⟨[],false,0⟩).done=true/\(RS.runX zM 9 ⟨[],false,0⟩).steps=3:=by decide +kernel
 generalize RS.runX zM 9 ⟨[],false,0⟩=s at h;obtain ⟨c,d,n⟩:=s;obtain ⟨rfl,rfl,rfl⟩:=h;rfl
def zI:List UInt8:=BT zD
def zH:List UInt8:=zr zI
def z1:List UInt8:=zS zI [0,1] 2
def z2:List UInt8:=zS zI [0,1,2] 3
theorem zI_len:zI.length=8:=AN _
theorem open_head (g:AG m):zG m (zr id) id (zr id)=some (j0 id):=by
 unfold zG;rw [if_pos (List.prefix_rfl),endJ_end (DY _)];rfl
theorem z_open1:zG zM zH zI (zH++z1.take (z1.length - 1))=some (j0 zI):=by
 unfold zG;rw [if_pos (List.prefix_append ..),Co]
 ·rfl
 cases J:zO zM (zH++z1.take (z1.length - 1)) ⟨[],0,zH.length,zI⟩ with
 | none=>rfl
 | some y=>
  exfalso
  obtain ⟨ch,st,-,-,hp,E,G,-⟩:=Db J;rw [List.drop_left] at hp;have hp:zS zI ch st <+: z1.take (z1.length - 1):=hp;have I:=hp.length_le;have D:=hp.trans (List.take_prefix ..);have hb:(Bf ch st).length<=(zS zI ch st).length:=by unfold zS wT;simp;omega
  have O:z1.length<=1000:=by
   have:=recB_le (sg:=zI) (ch:=[0,1]) (st:=2) (by rw [zI_len];omega) (fun x d=>by simp at d;rcases d with rfl | rfl <;> exact ⟨by decide,by decide⟩) ⟨by decide,by decide⟩ (by simp);show (zS zI [0,1] 2).length<=_;have h2:=body_len (ch:=[0,1]) (st:=2) (fun x d=>by simp at d;rcases d with rfl | rfl <;> exact ⟨by decide,by decide⟩) ⟨by decide,by decide⟩;have h3:=Br (s:=Bf [0,1] 2) (by simp at h2;omega);have E:=Br (s:=zJ zI [0,1] 2) (by rw [Bb];omega);have G:=Bb zI [0,1] 2;unfold zS;rw [Eg];simp at h2;omega
  rw [EQ] at I;have o:=recB_pos zI [0,1] 2;have M:0<z1.length:=o;obtain ⟨e1,e2⟩:=rec_same (sg:=zI) (l:=z1) ⟨E,G,by omega⟩ ⟨fun x d=>by simp at d;rcases d with rfl | rfl <;> exact ⟨by decide,by decide⟩,⟨by decide,by decide⟩,(by have U:(Bf [0,1] 2).length<=(zS zI [0,1] 2).length:=(by unfold zS wT;simp;omega);have V:(zS zI [0,1] 2).length<=1000:=O;omega)⟩ D List.prefix_rfl;rw [e1,e2] at I;have Q:(zS zI [0,1] 2).length=z1.length:=rfl;omega
theorem z_run {u:List UInt8} (M:zG zM zH zI u=some (j0 zI)) (hp:u.take zH.length=zH) (O:0<n) (I:n<=16) (J:RS.run zM n ⟨[],false,0⟩=r) (D:r.done=true\/(n:Int)<=r.steps):runF zM zH zI u n=(zH++zS zI r.ch r.steps,r.done,0):=by
 have e:(min (20000 - (j0 zI).steps) (n:Int))=n:=by show min (20000 - 0) (n:Int)=n;omega
 unfold runF;rw [M];simp only;rw [if_neg (by omega),e];have G:loadS zM (j0 zI).ch (j0 zI).steps=⟨[],false,0⟩:=z_start;rw [G];obtain ⟨f,hf⟩:∃f,((n:Int)).toNat=f+1:=⟨n - 1,by omega⟩;rw [hf]
 have E:(min (16 - (RS.mk [] false 0).steps % 16) ((n:Int) - ((RS.mk [] false 0).steps - (j0 zI).steps))).toNat=n:=by
  show (min (16 - 0 % 16) ((n:Int) - (0 - 0))).toNat=n;omega
 have d:=runJ_go (m:=zM) (b:=(j0 zI).steps) (lim:=n) (f:=f) (r:=⟨[],false,0⟩) (r':=r) (sg:=(j0 zI).sg) (by
  rintro (h | h)
  ·cases h
  ·have:(n:Int)<=0 - 0:=h;omega) (by rw [E];exact J)
 rw [d];have o:runJ zM (j0 zI).steps n f r (zJ (j0 zI).sg r.ch r.steps)=([],r):=runJ_stop (D.imp _root_.id fun h=>by show (n:Int)<=r.steps - 0;omega);rw [o];show (u.take zH.length++(zS zI r.ch r.steps++[]),r.done,0)=_;rw [hp,List.append_nil]
theorem z_openH:zG zM zH zI zH=some (j0 zI):=open_head z_good
theorem z_runA:runF zM zH zI zH 2=(zH++z1,false,0):=by
 have h:=z_run (u:=zH) (n:=2) (r:=⟨[0,1],false,2⟩) z_openH Ej (by decide) (by decide) z_run2 (.inr (by decide));rw [show ((2:Nat):Int)=2 from rfl] at h;exact h
theorem z_runB:runF zM zH zI (zH++z1.take (z1.length - 1)) 9=(zH++z2,true,0):=by
 have h:=z_run (n:=9) (r:=⟨[0,1,2],true,3⟩) z_open1 List.take_left (by decide) (by decide) z_run9 (.inl rfl);rw [show ((9:Nat):Int)=9 from rfl] at h;exact h
theorem z_runC:runF zM zH zI zH (-1)=([],false,1):=by
 unfold runF;rw [z_openH];rfl
theorem z_runD:runF zM zH zI zH 0=(zH,false,0):=by
 unfold runF;rw [z_openH];simp only;rw [if_neg (by omega),show loadS zM (j0 zI).ch (j0 zI).steps=⟨[],false,0⟩ from z_start];show (zH.take zH.length++[],false,0)=_;rw [Ej,List.append_nil]
theorem z_at {t:List UInt8} {d:Bool} (o:n<=20000) (h:runF zM zH zI zH n=(zH++t,d,0)):JAt zM zH zI (zH++t) n:=by
 obtain ⟨t',h1,h2⟩:=jat_run z_good (jat_begin zM zH zI) (n:=n) (by omega);rw [h] at h1;injection h1 with h1 _;have h3:=List.append_cancel_left h1;rw [Nat.zero_add] at h2;rw [h3];exact h2
theorem z_atS (h:RS.run zM n ⟨[],false,0⟩=r):zX zM n=r:=by
 unfold zX;rw [z_start];exact h
theorem z_openA:∃x,zG zM zH zI (zH++z1)=some x/\x.fin=(zH++z1).length/\x.ch=[0,1]/\x.steps=2:=by
 obtain ⟨x,h1,h2,h3,d⟩:=jat_read z_good (z_at (n:=2) (by omega) z_runA);rw [z_atS z_run2] at h3 d;exact ⟨x,h1,h2,h3,d⟩
theorem z_openB:∃x,zG zM zH zI (zH++z2)=some x/\x.ch=[0,1,2]/\x.steps=3:=by
 have h:=z_run (u:=zH) (n:=9) (r:=⟨[0,1,2],true,3⟩) z_openH Ej (by decide) (by decide) z_run9 (.inl rfl);obtain ⟨x,h1,h2,h3,d⟩:=jat_read z_good (z_at (n:=9) (by omega) h);rw [z_atS z_run9] at h3 d;exact ⟨x,h1,h3,d⟩
theorem z_resB:resF zM zH zI (zH++z2)=([[0,1,2]],.zero,0):=by
 obtain ⟨x,h1,h2,h3⟩:=z_openB;unfold resF;rw [h1];simp only;rw [h2,if_pos (by decide +kernel),show foundL zM [0,1,2]=[[0,1,2]] by decide +kernel]
theorem z_resH:resF zM zH zI zH=([],.zero,53):=by
 unfold resF;rw [z_openH];simp only;rw [show zV zM (j0 zI).ch=false by decide +kernel,if_neg (by simp),show loadS zM (j0 zI).ch (j0 zI).steps=⟨[],false,0⟩ from z_start,if_pos rfl]
theorem zH_pos:9<=zH.length:=by
 unfold zH zr wT;simp [zI_len,BQ];omega
theorem z_open0:zG zM zH zI []=none:=by
 unfold zG;rw [if_neg];intro h;have h1:=h.length_le;have h2:=zH_pos;rw [Fc] at h1;omega
theorem z_res0:resF zM zH zI []=([],.zero,4):=by
 unfold resF;rw [z_open0]
theorem DR (w:World):Calls Tryz.prog 67 #[] w fun e w'=>∃v,e=.returned v/\za w w'/\Bt w' (fun x=>w.heap.size<=x) v zM zN:=by
 have D:∀w,(Instr.makeSlice 29 (.int .i64 3) (.int .i64 3)).run Tryz.prog w=.ok (.slice (some ⟨w.heap.size,0,none⟩) 3 3) (w.alloc (.cells #[.bool false,.bool false,.bool false] 4)):=fun _=>by kernel_rfl
 go_enter Tryz.func67,Tryz.ntmps67
 go_wp2_with fail
 change (fun W=>bodyPost Tryz.prog Tryz.f67 (fun e w'=>∃v,e=Ending.returned v/\za w w'/\Bt w' (fun x=>w.heap.size<=x) v zM zN) Exit.ret _ W) ([_,_,_,_,_,_,_].foldl World.alloc w);refine fin_allocs w _ fun W G d=>?_
 have b0:zl W w.heap.size 32 _:=d 0 _ rfl;have b1:=d 1 _ rfl;have b2:=d 2 _ rfl;have b3:=d 3 _ rfl;have b4:=d 4 _ rfl;have b5:=d 5 _ rfl;have b6:=d 6 _ rfl;clear d D;obtain ⟨y0,y1,y2,y3,y4,y5⟩:=zt b0;generalize J:w.heap.size=H at*;refine ER (v:=.agg #[.int .i64 3,.int .i64 1,.int .i64 1,.slice (some ⟨H+1+1,0,none⟩) 1 1,.slice (some ⟨H+1+1+1,0,none⟩) 3 3,.slice (some ⟨H+1+1+1+1+1+1,0,none⟩) 1 1]) (by simp [results,Tryz.results67,go_sem,y0,y1,y2,y3,y4,y5]) rfl ⟨_,rfl,G,?_⟩;refine ⟨_,_,_,rfl,⟨[.slice (some ⟨H+1,0,none⟩) 3 3],⟨_,_,rfl,DY _,AT.block (cs:=#[.slice (some ⟨H+1,0,none⟩) 3 3]) b2 (by omega) rfl⟩,fun i x o=>?_⟩,⟨_,_,rfl,DY _,AT.block (cs:=#[.bool false,.bool false,.bool false]) b3 (by omega) rfl⟩,rfl,[.string ⟨#[97]⟩,.slice (some ⟨H+1+1+1+1,0,none⟩) 1 1,.slice (some ⟨H+1+1+1+1+1,0,none⟩) 1 1],⟨_,_,rfl,DY _,rfl,fun _=>⟨H+6,0,rfl,by omega,fun j u I=>by rw [Nat.zero_add];exact zl.cell (cs:=#[.string ⟨#[97]⟩,.slice (some ⟨H+1+1+1+1,0,none⟩) 1 1,.slice (some ⟨H+1+1+1+1+1,0,none⟩) 1 1]) b6 (by simpa using I)⟩⟩,fun i x sn o E=>?_⟩
 ·match i,o with
  | 0,o=>
   have:[true,true,true]=x:=by simpa [zM] using o
   subst this;exact ⟨_,rfl,⟨_,_,rfl,DY _,AT.block (cs:=#[.bool true,.bool true,.bool true]) b1 (by omega) rfl⟩⟩
 ·match i,o,E with
  | 0,o,E=>
   have e1:(([0],[2]):List Int×List Int)=x:=by simpa [zM] using o
   have e2:(⟨#[97]⟩:ByteArray)=sn:=by simpa [zN] using E
   subst e1 e2;exact ⟨_,_,rfl,rfl,rfl,⟨_,_,rfl,DY _,AT.block (cs:=#[.int .i64 0]) b4 (by omega) rfl⟩,⟨_,_,rfl,DY _,AT.block (cs:=#[.int .i64 2]) b5 (by omega) rfl⟩⟩
end
end Go.Proofs.YtjomnbdjajjgfaaGreatDoor
