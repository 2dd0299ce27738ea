import Derived.Test.YtfjjdmpndmbfoaaGreatDoorWTu
import Derived.Stop.LaidErr
import Derived.Lib.LaidTab
set_option linter.unusedVariables false
set_option linter.unusedSimpArgs false
set_option maxRecDepth 100000
set_option maxHeartbeats 16000000
namespace Go.Proofs.YtfjjdmpndmbfoaaGreatDoor
variable {h id s t:List UInt8} {m:MZ} {n:Nat} {ok:Nat->Prop} {v:Value} {W w':World}
section
open Go.RowKit Go.Shelf
attribute [local go_sem ↓] Go.wp_at_zero Go.wp_at_succ
def zM:MZ:=⟨3,1,1,[[true,true,true]],[false,false,false],[([0],[2])]⟩
def zN:List ByteArray:=[⟨#[97]⟩]
def zD:List UInt8:=[51,59,49,59,49,59,49,59,49,58,97,91,48,59,93,91,50,59,93,49,59,51,58,49,49,49,51,58,48,48,48]
theorem z_desc:AG zM zN=zD:=by decide +kernel
theorem z_chk:BS zM=0:=by decide +kernel
theorem z_good:zX zM:=zX.of z_chk
theorem z_lens:Lens zM:=⟨by simp [zM],by simp [zM],by simp [zM],fun t ht=>by
 simp only [zM,Er,Ey,or_false] at ht;rcases ht with rfl;simp⟩
theorem z_small:Small zM zN:=⟨by simp [zM],by simp [zM],by simp [zM],by simp [zM],by simp [zM,zN],fun t ht=>by
  simp only [zM,Er,Ey,or_false] at ht;rcases ht with rfl;refine ⟨by simp,by simp,fun n d=>?_⟩;simp at d;rcases d with rfl | rfl <;> exact ⟨by decide,by decide⟩,fun s o=>by
  simp only [zN,Er,Ey,or_false] at o;rcases o with rfl;decide,by simp [zM],fun f hf=>by
  simp only [zM,Er,Ey,or_false] at hf;rcases hf with rfl;simp,by simp [zM]⟩
theorem z_start:loadS zM [] 0=⟨[],false,0⟩:=by
 have h:Bk zM []=false:=by decide +kernel
 unfold loadS;rw [h];rfl
theorem z_run2:RS.run zM 2 ⟨[],false,0⟩=⟨[0,1],false,2⟩:=by
 rw [run_x z_good.dim];have h:(RS.runX zM 2 ⟨[],false,0⟩).ch=[0,1]/\(RS.runX zM 2 ⟨[],false,0⟩).done=false/\(RS.runX zM 2 ⟨[],false,0⟩).steps=2:=by decide +kernel
 generalize RS.runX zM 2 ⟨[],false,0⟩=s at h;obtain ⟨c,d,n⟩:=s;obtain ⟨rfl,rfl,rfl⟩:=h;rfl
theorem z_run9:RS.run zM 9 ⟨[],false,0⟩=⟨[0,1,2],true,3⟩:=by
 rw [run_x z_good.dim];have h:(RS.runX zM 9 ⟨[],false,0⟩).ch=[0,1,2]/\(RS.runX zM 9 ⟨[],false,0⟩).done=true/\(RS.runX zM 9 ⟨[],false,0⟩).steps=3:=by decide +kernel
 generalize RS.runX zM 9 ⟨[],false,0⟩=s at h;obtain ⟨c,d,n⟩:=s;obtain ⟨rfl,rfl,rfl⟩:=h;rfl
def zI:List UInt8:=Dl zD
def zH:List UInt8:=zv zI
def z1:List UInt8:=zU zI [0,1] 2
def z2:List UInt8:=zU zI [0,1,2] 3
theorem zI_len:zI.length=8:=Bd _
theorem open_head (g:zX m):zE m (zv id) id (zv id)=some (j0 id):=by
 unfold zE;rw [if_pos (List.prefix_rfl),endJ_end (DE _)];rfl
theorem z_open1:zE zM zH zI (zH++z1.take (z1.length - 1))=some (j0 zI):=by
 unfold zE;rw [if_pos (List.prefix_append ..),endJ_none]
 ·rfl
 cases J:Aa zM (zH++z1.take (z1.length - 1)) ⟨[],0,zH.length,zI⟩ with
 | none=>rfl
 | some y=>
  exfalso
  obtain ⟨ch,st,-,-,hp,E,G,-⟩:=Dc J;rw [List.drop_left] at hp;have hp:zU zI ch st <+: z1.take (z1.length - 1):=hp;have I:=hp.length_le;have B:=hp.trans (List.take_prefix ..);have hb:(Bb ch st).length<=(zU zI ch st).length:=by unfold zU wT;simp;omega
  have M:z1.length<=1000:=by
   have:=recB_le (sg:=zI) (ch:=[0,1]) (st:=2) (by rw [zI_len];omega) (fun x d=>by simp at d;rcases d with rfl | rfl <;> exact ⟨by decide,by decide⟩) ⟨by decide,by decide⟩ (by simp);show (zU zI [0,1] 2).length<=_;have D:=body_len (ch:=[0,1]) (st:=2) (fun x d=>by simp at d;rcases d with rfl | rfl <;> exact ⟨by decide,by decide⟩) ⟨by decide,by decide⟩;have O:=Cb (s:=Bb [0,1] 2) (by simp at D;omega);have E:=Cb (s:=zT zI [0,1] 2) (by rw [AT];omega);have G:=AT zI [0,1] 2;unfold zU;rw [DM];simp at D;omega
  rw [Eu] at I;have o:=recB_pos zI [0,1] 2;have K:0<z1.length:=o;obtain ⟨e1,e2⟩:=rec_same (sg:=zI) (l:=z1) ⟨E,G,by omega⟩ ⟨fun x d=>by simp at d;rcases d with rfl | rfl <;> exact ⟨by decide,by decide⟩,⟨by decide,by decide⟩,(by have U:(Bb [0,1] 2).length<=(zU zI [0,1] 2).length:=(by unfold zU wT;simp;omega);have V:(zU zI [0,1] 2).length<=1000:=M;omega)⟩ B List.prefix_rfl;rw [e1,e2] at I;have Q:(zU zI [0,1] 2).length=z1.length:=rfl;omega
theorem z_run {u:List UInt8} {r:RS} (J:zE zM zH zI u=some (j0 zI)) (hp:u.take zH.length=zH) (K:0<n) (G:n<=16) (I:RS.run zM n ⟨[],false,0⟩=r) (B:r.done=true\/(n:Int)<=r.steps):BC zM zH zI u n=(zH++zU zI r.ch r.steps,r.done,0):=by
 have e:(min (20000 - (j0 zI).steps) (n:Int))=n:=by show min (20000 - 0) (n:Int)=n;omega
 unfold BC;rw [J];simp only;rw [if_neg (by omega),e];have E:loadS zM (j0 zI).ch (j0 zI).steps=⟨[],false,0⟩:=z_start;rw [E];obtain ⟨f,hf⟩:∃f,((n:Int)).toNat=f+1:=⟨n - 1,by omega⟩;rw [hf]
 have D:(min (16 - (RS.mk [] false 0).steps % 16) ((n:Int) - ((RS.mk [] false 0).steps - (j0 zI).steps))).toNat=n:=by
  show (min (16 - 0 % 16) ((n:Int) - (0 - 0))).toNat=n;omega
 have d:=runJ_go (m:=zM) (b:=(j0 zI).steps) (lim:=n) (f:=f) (r:=⟨[],false,0⟩) (r':=r) (sg:=(j0 zI).sg) (by
  rintro (h | h)
  ·cases h
  ·have:(n:Int)<=0 - 0:=h;omega) (by rw [D];exact I)
 rw [d];have o:runJ zM (j0 zI).steps n f r (zT (j0 zI).sg r.ch r.steps)=([],r):=runJ_stop (B.imp _root_.id fun h=>by show (n:Int)<=r.steps - 0;omega);rw [o];show (u.take zH.length++(zU zI r.ch r.steps++[]),r.done,0)=_;rw [hp,List.append_nil]
theorem z_openH:zE zM zH zI zH=some (j0 zI):=open_head z_good
theorem z_runA:BC zM zH zI zH 2=(zH++z1,false,0):=by
 have h:=z_run (u:=zH) (n:=2) (r:=⟨[0,1],false,2⟩) z_openH DP (by decide) (by decide) z_run2 (.inr (by decide));rw [show ((2:Nat):Int)=2 from rfl] at h;exact h
theorem z_runB:BC zM zH zI (zH++z1.take (z1.length - 1)) 9=(zH++z2,true,0):=by
 have h:=z_run (n:=9) (r:=⟨[0,1,2],true,3⟩) z_open1 List.take_left (by decide) (by decide) z_run9 (.inl rfl);rw [show ((9:Nat):Int)=9 from rfl] at h;exact h
theorem z_runC:BC zM zH zI zH (-1)=([],false,1):=by
 unfold BC;rw [z_openH];rfl
theorem z_runD:BC zM zH zI zH 0=(zH,false,0):=by
 unfold BC;rw [z_openH];simp only;rw [if_neg (by omega),show loadS zM (j0 zI).ch (j0 zI).steps=⟨[],false,0⟩ from z_start];show (zH.take zH.length++[],false,0)=_;rw [DP,List.append_nil]
theorem z_at {d:Bool} (D:n<=20000) (h:BC zM zH zI zH n=(zH++t,d,0)):JAt zM zH zI (zH++t) n:=by
 obtain ⟨t',h1,o⟩:=jat_run z_good (jat_begin zM zH zI) (n:=n) (by omega);rw [h] at h1;injection h1 with h1 _;have B:=List.append_cancel_left h1;rw [Nat.zero_add] at o;rw [B];exact o
theorem z_atS {r:RS} (h:RS.run zM n ⟨[],false,0⟩=r):zK zM n=r:=by
 unfold zK;rw [z_start];exact h
theorem z_openA:∃x,zE zM zH zI (zH++z1)=some x/\x.fin=(zH++z1).length/\x.ch=[0,1]/\x.steps=2:=by
 obtain ⟨x,h1,B,d,o⟩:=jat_read z_good (z_at (n:=2) (by omega) z_runA);rw [z_atS z_run2] at d o;exact ⟨x,h1,B,d,o⟩
theorem z_openB:∃x,zE zM zH zI (zH++z2)=some x/\x.ch=[0,1,2]/\x.steps=3:=by
 have h:=z_run (u:=zH) (n:=9) (r:=⟨[0,1,2],true,3⟩) z_openH DP (by decide) (by decide) z_run9 (.inl rfl);obtain ⟨x,h1,B,d,o⟩:=jat_read z_good (z_at (n:=9) (by omega) h);rw [z_atS z_run9] at d o;exact ⟨x,h1,d,o⟩
theorem z_resB:Bx zM zH zI (zH++z2)=([[0,1,2]],.zero,0):=by
 obtain ⟨x,h1,d,o⟩:=z_openB;unfold Bx;rw [h1];simp only;rw [d,if_pos (by decide +kernel),show Cw zM [0,1,2]=[[0,1,2]] by decide +kernel]
theorem z_resH:Bx zM zH zI zH=([],.zero,53):=by
 unfold Bx;rw [z_openH];simp only;rw [show Bk zM (j0 zI).ch=false by decide +kernel,if_neg (by simp),show loadS zM (j0 zI).ch (j0 zI).steps=⟨[],false,0⟩ from z_start,if_pos rfl]
theorem zH_pos:9<=zH.length:=by
 unfold zH zv wT;simp [zI_len,Cy];omega
theorem z_open0:zE zM zH zI []=none:=by
 unfold zE;rw [if_neg];intro h;have h1:=h.length_le;have d:=zH_pos;rw [EG] at h1;omega
theorem z_res0:Bx zM zH zI []=([],.zero,4):=by
 unfold Bx;rw [z_open0]
theorem Dw (w:World):Calls Tryz.prog 20 #[] w fun e w'=>∃v,e=.returned v/\zc w w'/\BD w' (fun x=>w.heap.size<=x) v zM zN:=by
 have B:∀w,(Instr.makeSlice 26 (.int .i64 3) (.int .i64 3)).run Tryz.prog w=.ok (.slice (some ⟨w.heap.size,0,none⟩) 3 3) (w.alloc (.cells #[.bool false,.bool false,.bool false] 4)):=fun _=>by kernel_rfl
 go_enter Tryz.func20,Tryz.ntmps20
 go_wp2_with fail
 change (fun W=>bodyPost Tryz.prog Tryz.f20 (fun e w'=>∃v,e=Ending.returned v/\zc w w'/\BD w' (fun x=>w.heap.size<=x) v zM zN) Exit.ret _ W) ([_,_,_,_,_,_,_].foldl World.alloc w);refine fin_allocs w _ fun W E d=>?_
 have b0:zg W w.heap.size 29 _:=d 0 _ rfl;have b1:=d 1 _ rfl;have b2:=d 2 _ rfl;have b3:=d 3 _ rfl;have b4:=d 4 _ rfl;have b5:=d 5 _ rfl;have b6:=d 6 _ rfl;clear d B;obtain ⟨y0,y1,y2,y3,y4,y5⟩:=zw b0;generalize I:w.heap.size=H at*;refine Ev (v:=.agg #[.int .i64 3,.int .i64 1,.int .i64 1,.slice (some ⟨H+1+1,0,none⟩) 1 1,.slice (some ⟨H+1+1+1,0,none⟩) 3 3,.slice (some ⟨H+1+1+1+1+1+1,0,none⟩) 1 1]) (by simp [results,Tryz.results20,go_sem,y0,y1,y2,y3,y4,y5]) rfl ⟨_,rfl,E,?_⟩;refine ⟨_,_,_,rfl,⟨[.slice (some ⟨H+1,0,none⟩) 3 3],⟨_,_,rfl,DE _,AD.block (cs:=#[.slice (some ⟨H+1,0,none⟩) 3 3]) b2 (by omega) rfl⟩,fun i x o=>?_⟩,⟨_,_,rfl,DE _,AD.block (cs:=#[.bool false,.bool false,.bool false]) b3 (by omega) rfl⟩,rfl,[.string ⟨#[97]⟩,.slice (some ⟨H+1+1+1+1,0,none⟩) 1 1,.slice (some ⟨H+1+1+1+1+1,0,none⟩) 1 1],⟨_,_,rfl,DE _,rfl,fun _=>⟨H+6,0,rfl,by omega,fun j u G=>by rw [Nat.zero_add];exact zg.cell (cs:=#[.string ⟨#[97]⟩,.slice (some ⟨H+1+1+1+1,0,none⟩) 1 1,.slice (some ⟨H+1+1+1+1+1,0,none⟩) 1 1]) b6 (by simpa using G)⟩⟩,fun i x sn o D=>?_⟩
 ·match i,o with
  | 0,o=>
   have:[true,true,true]=x:=by simpa [zM] using o
   subst this;exact ⟨_,rfl,⟨_,_,rfl,DE _,AD.block (cs:=#[.bool true,.bool true,.bool true]) b1 (by omega) rfl⟩⟩
 ·match i,o,D with
  | 0,o,D=>
   have e1:(([0],[2]):List Int×List Int)=x:=by simpa [zM] using o
   have e2:(⟨#[97]⟩:ByteArray)=sn:=by simpa [zN] using D
   subst e1 e2;exact ⟨_,_,rfl,rfl,rfl,⟨_,_,rfl,DE _,AD.block (cs:=#[.int .i64 0]) b4 (by omega) rfl⟩,⟨_,_,rfl,DE _,AD.block (cs:=#[.int .i64 2]) b5 (by omega) rfl⟩⟩
end
section
open Go.RowKit Go.Shelf
attribute [local go_sem ↓] Go.wp_at_zero Go.wp_at_succ
attribute [local go_sem] Oper.semAt_some
theorem zreads_calls {vl:Value} {l:List Int} {st en:Int} (w:World) (hv:zq w) (J:zl w ok vl l) (I:l.length<=1000) (a0:s.length<=40000000) (K:∃x,zE zM zH zI s=some x/\x.steps=st/\(x.fin:Int)=en/\x.ch=l):
  Calls Tryz.prog 23 #[.string ⟨s.toArray⟩,.int .i64 st,.int .i64 en,vl] w fun e w'=>e=.returned (.bool true)/\zc w w':=by
 have HV:=zh hv;have U:=zh J;have HX:=zh K;have o:=zh I;obtain ⟨A,c,rfl,-,-⟩:=J;clear hv K I
 go_enter Tryz.func23,Tryz.ntmps23
 go_wp2_with fail
 refine (Dw w).mono ?_;rintro e w1 ⟨v1,rfl,d,G⟩
 have O:Hid (Calls Tryz.prog 13 #[v1,.string ⟨s.toArray⟩] w1 (ReadPost w1 zM zI s)):=by
  have h:=jRead_calls (s:=s) w1 (HV.out.ext d) G z_small z_lens z_chk a0;rw [z_desc] at h;exact h
 obtain ⟨f,u,t,rfl,⟨_,⟨Af,cf,rfl,-,-⟩,-⟩,⟨Au,cu,rfl,-,-⟩,⟨-,_,⟨At,ct,rfl,-,-⟩,-⟩⟩:=G;have M:=zh d;clear d
 go_wp2_with fail
 refine O.out.mono ?_;rintro e w2 ⟨vc,x,er,rfl,D,E,-,h2⟩;obtain ⟨y,hy,rfl,rfl,rfl⟩:=HX.out;obtain ⟨rfl,rfl⟩:=h2 y hy;have B:Hid (zc w w2):=M.out.trans D
 have Q:Hid (∀W,zc w2 W->Calls Tryz.prog 14 #[vc,.slice A x.ch.length c] W fun e w'=>e=.returned (.bool true)/\zc W w'):=fun W h=>by
  have h1:=same_calls W (E.below h) (U.out.below (B.out.trans h)) (by have:=o.out;omega) (by have:=o.out;omega);rw [DH rfl] at h1;exact h1.mono fun e w' h=>⟨h.1,h.2.below _⟩
 obtain ⟨Ac,cc,rfl,-,-⟩:=E;have K:zc w2 w2:=zc.refl w2;clear D h2 hy
 go_wp2_with fail
 refine (Q.out _ K).mono ?_;rintro e w3 ⟨rfl,V⟩
 go_wp2_with fail
 go_ret;exact ⟨rfl,B.out.trans V⟩
structure ZP (M:MZ) (ns:List ByteArray) (I H C1 C2 S1 S2 T1 T0 U:List UInt8):Prop where
 m:zM=M/\zN=ns
 id:Dl (AG M ns)=I/\zv I=H/\Dl zD=I/\zI=I/\zH=H
 ok:BS M=0/\Lens M/\Small M ns
 il:I.length=8
 hl:H.length<=10000/\T1.length<=10000/\U.length<=10000/\0<T1.length
 h:H=[53,58,114,111,117,116,101,56,58]++I
 c1:C1=BO I [91,48,59,49,59,93,50,59]
 c2:C2=BO I [91,48,59,49,59,50,59,93,51,59]
 s1:S1=H++[56,58,91,48,59,49,59,93,50,59,56,58]/\T1=S1++C1
 s2:S2=H++[49,48,58,91,48,59,49,59,50,59,93,51,59,56,58]/\U=S2++C2
 t0:T0=T1.take (T1.length - 1)
 rA:BC M H I H 2=(T1,false,0)
 rB:BC M H I T0 9=(U,true,0)
 rC:BC M H I H (-1)=([],false,1)
 rD:BC M H I H 0=(H,false,0)
 oA:∃x,zE M H I T1=some x/\x.fin=T1.length/\x.ch=[0,1]/\x.steps=2
 o0:zE M H I T0=some (j0 I)
 oH:zE M H I H=some (j0 I)
 oN:zE M H I []=none
 oB:∃x,zE M H I U=some x/\x.ch=[0,1,2]/\x.steps=3
 qB:Bx M H I U=([[0,1,2]],.zero,0)
 qH:Bx M H I H=([],.zero,53)
 qN:Bx M H I []=([],.zero,4)
 cB:Bk M [0,1,2]=true
 dH:(loadS M [] 0).done=false
theorem z1_eq:z1=[56,58,91,48,59,49,59,93,50,59,56,58]++BO zI [91,48,59,49,59,93,50,59]:=by
 have o:Bb [0,1] 2=[91,48,59,49,59,93,50,59]:=by decide +kernel
 have D:(zT zI [0,1] 2).length=8:=AT _ _ _;have B:Lib.itoa ((8:Nat):Int)=[56]:=by decide +kernel
 have E:wT (zT zI [0,1] 2)=[56,58]++zT zI [0,1] 2:=by
  unfold wT;rw [D,B];rfl
 have d:wT (Bb [0,1] 2)=[56,58,91,48,59,49,59,93,50,59]:=by rw [o];decide +kernel
 show wT (Bb [0,1] 2)++wT (zT zI [0,1] 2)=_;rw [d,E];unfold zT;rw [o];rfl
theorem z2_eq:z2=[49,48,58,91,48,59,49,59,50,59,93,51,59,56,58]++BO zI [91,48,59,49,59,50,59,93,51,59]:=by
 have o:Bb [0,1,2] 3=[91,48,59,49,59,50,59,93,51,59]:=by decide +kernel
 have D:(zT zI [0,1,2] 3).length=8:=AT _ _ _;have B:Lib.itoa ((8:Nat):Int)=[56]:=by decide +kernel
 have E:wT (zT zI [0,1,2] 3)=[56,58]++zT zI [0,1,2] 3:=by
  unfold wT;rw [D,B];rfl
 have d:wT (Bb [0,1,2] 3)=[49,48,58,91,48,59,49,59,50,59,93,51,59]:=by rw [o];decide +kernel
 show wT (Bb [0,1,2] 3)++wT (zT zI [0,1,2] 3)=_;rw [d,E];unfold zT;rw [o];rfl
theorem zH_eq:zH=[53,58,114,111,117,116,101,56,58]++zI:=by
 have d:Lib.itoa ((8:Nat):Int)=[56]:=by decide +kernel
 have o:wT Cy=[53,58,114,111,117,116,101]:=by decide +kernel
 have B:wT zI=[56,58]++zI:=by
  unfold wT;rw [zI_len,d];rfl
 show wT Cy++wT zI=_;rw [o,B];rfl
theorem chain_len (a b:List UInt8):(BO a b).length=8:=rfl
theorem z_pack:∃M ns I H C1 C2 S1 S2 T1 T0 U,ZP M ns I H C1 C2 S1 S2 T1 T0 U:=by
 have o:zH.length=17:=by rw [zH_eq,DM,zI_len];rfl
 have h1:z1.length=20:=by rw [z1_eq,DM,chain_len];rfl
 have d:z2.length=23:=by rw [z2_eq,DM,chain_len];rfl
 have ht:zH++z1.take (z1.length - 1)=(zH++z1).take ((zH++z1).length - 1):=by
  rw [DM,List.take_append,List.take_of_length_le (show zH.length<=zH.length+z1.length - 1 by omega),show zH.length+z1.length - 1 - zH.length=z1.length - 1 by omega]
 refine ⟨zM,zN,zI,zH,BO zI [91,48,59,49,59,93,50,59],BO zI [91,48,59,49,59,50,59,93,51,59],zH++[56,58,91,48,59,49,59,93,50,59,56,58],zH++[49,48,58,91,48,59,49,59,50,59,93,51,59,56,58],zH++z1,zH++z1.take (z1.length - 1),zH++z2,⟨rfl,rfl⟩,⟨by rw [z_desc];rfl,rfl,rfl,rfl,rfl⟩,⟨z_chk,z_lens,z_small⟩,zI_len,?_,zH_eq,rfl,rfl,⟨rfl,?_⟩,⟨rfl,?_⟩,ht,z_runA,z_runB,z_runC,z_runD,z_openA,z_open1,z_openH,z_open0,z_openB,z_resB,z_resH,z_res0,by decide +kernel,by rw [z_start]⟩
 ·simp only [DM];omega
 ·rw [z1_eq,List.append_assoc]
 ·rw [z2_eq,List.append_assoc]
theorem of_r (a:List UInt8) (w:World) (d:a.length<=1000000000):Calls Tryz.prog 21 #[.string ⟨a.toArray⟩] w fun e w'=>e=.returned (.string ⟨(Dl a).toArray⟩)/\zc w w':=
 rOf_calls ⟨a.toArray⟩ w (by have:(ByteArray.mk a.toArray).size=a.length:=(by simp [ByteArray.size]);omega)
theorem chain_r (a b:List UInt8) (w:World) (d:a.length<=1000000000) (o:b.length<=1000000000):Calls Tryz.prog 22 #[.string ⟨a.toArray⟩,.string ⟨b.toArray⟩] w fun e w'=>e=.returned (.string ⟨(BO a b).toArray⟩)/\zc w w':=
 rChain_calls ⟨a.toArray⟩ ⟨b.toArray⟩ w (by simpa [ByteArray.size] using d) (by simpa [ByteArray.size] using o)
theorem zsanity_calls (w:World) (hv:zq w):Calls Tryz.prog 6 #[] w fun e w'=>e=.returned (.bool true)/\zc w w':=by
 obtain ⟨M,ns,I,H,C1,C2,S1,S2,T1,T0,U,hz⟩:=z_pack;have B:=zh hz;have HV:=zh hv;clear hz hv
 go_enter Tryz.func6,Tryz.ntmps6
 go_wp2_with fail
 refine (Dw w).mono ?_;rintro e w1 ⟨v1,rfl,f1,d5⟩;rw [B.out.m.1,B.out.m.2] at d5;have e6:=zh d5;obtain ⟨f,u,t,rfl,⟨_,⟨Af,cf,rfl,-,-⟩,-⟩,⟨Au,cu,rfl,-,-⟩,⟨-,_,⟨At,ct,rfl,-,-⟩,-⟩⟩:=d5;go_upto_region 2 with fail;obtain ⟨a3,r0,r1,r2,r3,r4,r5⟩:=mz_box w1 M Af cf Au cu At ct;simp only [mzc] at a3 r0 r1 r2 r3 r4 r5;generalize w1.alloc _=w2 at a3 r0 r1 r2 r3 r4 r5⊢;generalize w1.heap.size=gm at r0 r1 r2 r3 r4 r5⊢;have c9:=zh (e6.out.below a3);have e9:Hid (zc w w2):=f1.trans a3;have b4:Hid (zq w2):=HV.out.ext e9.out;clear f1 a3 e6
 have e7:Hid (Calls Tryz.prog 21 #[.string ⟨#[51,59,49,59,49,59,49,59,49,58,97,91,48,59,93,91,50,59,93,49,59,51,58,49,49,49,51,58,48,48,48]⟩] w2 fun e w'=>e=.returned (.string ⟨I.toArray⟩)/\zc w2 w'):=by
  have h:=of_r zD w2 (by decide);rw [B.out.id.2.2.1] at h;exact h
 have e4:Hid (∀W,zc w2 W->Calls Tryz.prog 8 #[.agg #[.int .i64 M.w,.int .i64 M.h,.int .i64 M.l,.slice Af M.free.length cf,.slice Au M.up.length cu,.slice At M.tasks.length ct]] W fun e w'=>e=.returned (.tuple #[.string ⟨H.toArray⟩,.int .i64 0])/\zc W w'):=fun W h=>by
  have h1:=jBegin_calls W (b4.out.ext h) (c9.out.below h) B.out.ok.2.2 B.out.ok.2.1 B.out.ok.1;rw [B.out.id.1,B.out.id.2.1] at h1;exact h1
 have b6:Hid (∀W,Calls Tryz.prog 22 #[.string ⟨I.toArray⟩,.string ⟨#[91,48,59,49,59,93,50,59]⟩] W fun e w'=>e=.returned (.string ⟨C1.toArray⟩)/\zc W w'):=fun W=>by
  rw [B.out.c1];exact chain_r I [91,48,59,49,59,93,50,59] W (by have:=B.out.il;omega) (by decide)
 have b7:Hid (∀W,Calls Tryz.prog 22 #[.string ⟨I.toArray⟩,.string ⟨#[91,48,59,49,59,50,59,93,51,59]⟩] W fun e w'=>e=.returned (.string ⟨C2.toArray⟩)/\zc W w'):=fun W=>by
  rw [B.out.c2];exact chain_r I [91,48,59,49,59,50,59,93,51,59] W (by have:=B.out.il;omega) (by decide)
 have e8:Hid (∀S x,S=H\/S=T0\/S=U\/S=[]->zE M H I S=some x->x.steps<=20000):=fun S x hS D=>by
  rcases hS with rfl | rfl | rfl | rfl
  ·rw [B.out.oH] at D;injection D with D;rw [<-D];exact (show (0:Int)<=20000 by decide)
  ·rw [B.out.o0] at D;injection D with D;rw [<-D];exact (show (0:Int)<=20000 by decide)
  ·obtain ⟨y,h1,-,h2⟩:=B.out.oB;rw [h1] at D;injection D with D;rw [<-D,h2];decide
  ·rw [B.out.oN] at D;cases D
 have G:Hid (∀(S T:List UInt8) (n:Int) (d:Bool) (e0:Int),(S=H\/S=T0\/S=U\/S=[])->S.length<=20000->-1000<=n/\n<=1000->BC M H I S n=(T,d,e0)->∀W,zc w2 W->Calls Tryz.prog 9 #[.agg #[.int .i64 M.w,.int .i64 M.h,.int .i64 M.l,.slice Af M.free.length cf,.slice Au M.up.length cu,.slice At M.tasks.length ct],.string ⟨S.toArray⟩,.int .i64 n] W fun e w'=>e=.returned (.tuple #[.string ⟨T.toArray⟩,.bool d,.int .i64 e0])/\zc W w'):=fun S T n d e0 hS f9 hn hr W h=>by
  have h1:=jRun_calls (s:=S) n W (b4.out.ext h) (c9.out.below h) B.out.ok.2.2 B.out.ok.2.1 B.out.ok.1 (by omega) hn (by rw [B.out.id.1,B.out.id.2.1];exact fun x D=>e8.out S x hS D);unfold CM at h1;rw [B.out.id.1,B.out.id.2.1,hr] at h1;exact h1
 have V:Hid (∀(S:List UInt8),(S=H\/S=U\/S=[])->S.length<=20000->∀W,zc w2 W->Calls Tryz.prog 10 #[.agg #[.int .i64 M.w,.int .i64 M.h,.int .i64 M.l,.slice Af M.free.length cf,.slice Au M.up.length cu,.slice At M.tasks.length ct],.string ⟨S.toArray⟩] W (CX W M I S)):=fun S hS f9 W h=>by
  have h1:=jResult_calls (s:=S) W (b4.out.ext h) (c9.out.below h) B.out.ok.2.2 B.out.ok.2.1 B.out.ok.1 (by omega) (by rw [B.out.id.1,B.out.id.2.1];exact fun x D=>e8.out S x (hS.elim .inl fun h=>h.elim (fun h=>.inr (.inr (.inl h))) fun h=>.inr (.inr (.inr h))) D) (by
   rw [B.out.id.1,B.out.id.2.1];intro x D g4 g5
   exfalso
   rcases hS with rfl | rfl | rfl
   ·rw [B.out.oH] at D;injection D with D;rw [<-D] at g5;exact absurd (show (loadS M [] 0).done=true from g5) (by rw [B.out.dH];simp)
   ·obtain ⟨y,h1,h2,-⟩:=B.out.oB;rw [h1] at D;injection D with D;rw [<-D,h2,B.out.cB] at g4;cases g4
   ·rw [B.out.oN] at D;cases D)
  rw [B.out.id.1] at h1;exact h1
 have b9:Hid (∀(S:List UInt8) (ok:Nat->Prop) (vl:Value) (l:List Int) (st en:Int),S.length<=20000->l.length<=1000->(∃x,zE M H I S=some x/\x.steps=st/\(x.fin:Int)=en/\x.ch=l)->∀W,zc w2 W->zl W ok vl l->Calls Tryz.prog 23 #[.string ⟨S.toArray⟩,.int .i64 st,.int .i64 en,vl] W fun e w'=>e=.returned (.bool true)/\zc W w'):=fun S ok vl l st en f9 h7 D W h i0=>by
  refine zreads_calls W (b4.out.ext h) i0 h7 (by omega) ?_;rw [B.out.m.1,B.out.id.2.2.2.1,B.out.id.2.2.2.2];exact D
 have j4:∀w,(Op.stringOp .add ⟨#[53,58,114,111,117,116,101,56,58]⟩ ⟨I.toArray⟩).run Tryz.prog w=.ok (.string ⟨H.toArray⟩) w:=fun w=>by rw [B.out.h];exact Bi (x:=[53,58,114,111,117,116,101,56,58]) (by have:=B.out.il;simp;omega)
 have j5:∀w,(Op.stringOp .add ⟨H.toArray⟩ ⟨#[56,58,91,48,59,49,59,93,50,59,56,58]⟩).run Tryz.prog w=.ok (.string ⟨S1.toArray⟩) w:=fun w=>by rw [B.out.s1.1];exact Bi (y:=[56,58,91,48,59,49,59,93,50,59,56,58]) (by have:=B.out.hl;simp;omega)
 have h8:S1.length<=20000:=by rw [B.out.s1.1];have:=B.out.hl;simp;omega
 have h9:S2.length<=20000:=by rw [B.out.s2.1];have:=B.out.hl;simp;omega
 have g1:C1.length=8:=by rw [B.out.c1];rfl
 have g3:C2.length=8:=by rw [B.out.c2];rfl
 have j6:∀w,(Op.stringOp .add ⟨S1.toArray⟩ ⟨C1.toArray⟩).run Tryz.prog w=.ok (.string ⟨T1.toArray⟩) w:=fun w=>by rw [B.out.s1.2];exact Bi (by omega)
 have j7:∀w,(Op.stringOp .add ⟨H.toArray⟩ ⟨#[49,48,58,91,48,59,49,59,50,59,93,51,59,56,58]⟩).run Tryz.prog w=.ok (.string ⟨S2.toArray⟩) w:=fun w=>by rw [B.out.s2.1];exact Bi (y:=[49,48,58,91,48,59,49,59,50,59,93,51,59,56,58]) (by have:=B.out.hl;simp;omega)
 have j8:∀w,(Op.stringOp .add ⟨S2.toArray⟩ ⟨C2.toArray⟩).run Tryz.prog w=.ok (.string ⟨U.toArray⟩) w:=fun w=>by rw [B.out.s2.2];exact Bi (by omega)
 have E:Hid (H.length<=10000/\T1.length<=10000/\U.length<=10000/\0<T1.length):=B.out.hl;clear h8 h9 g1 g3;have D:zc w2 w2:=zc.refl w2
 go_wp2_with fail
 refine e7.out.mono ?_;rintro e w3 ⟨rfl,f3⟩;have d6:zc w2 w3:=D.trans f3;clear D f3 e7
 go_wp2_with fail
 refine (e4.out _ d6).mono ?_;rintro e w4 ⟨rfl,f4⟩;have g6:zc w2 w4:=d6.trans f4;clear d6 f4 e4
 go_wp2_with fail
 refine (b6.out _).mono ?_;rintro e w5 ⟨rfl,f5⟩;have g7:zc w2 w5:=g6.trans f5;clear g6 f5 b6
 go_wp2_with fail
 refine (b7.out _).mono ?_;rintro e w6 ⟨rfl,f6⟩;have d7:zc w2 w6:=g7.trans f6;clear g7 f6 b7
 go_wp2_with fail
 refine (G.out H T1 2 false 0 (.inl rfl) (by have:=E.out;omega) (by decide) B.out.rA _ d7).mono ?_;rintro e w7 ⟨rfl,f7⟩;have d8:zc w2 w7:=d7.trans f7;clear d7 f7;have d4:zc w7 (w7.alloc (.cells #[.int .i64 0,.int .i64 1] 3)):=(zc.refl w7).alloc _;have b8:Hid (zl (w7.alloc (.cells #[.int .i64 0,.int .i64 1] 3)) (fun _=>True) (.slice (some ⟨w7.heap.size,0,none⟩) 2 2) [0,1]):=⟨_,_,rfl,DE _,AD.block (cs:=#[.int .i64 0,.int .i64 1]) (zg.new w7 _ _ rfl) trivial rfl⟩
 go_wp2_with fail
 refine (b9.out T1 _ _ [0,1] 2 T1.length (by have:=E.out;omega) (by decide) (by obtain ⟨x,h1,h2,h3,h4⟩:=B.out.oA;exact ⟨x,h1,h4,by rw [h2],h3⟩) _ (d8.trans d4) b8.out).mono ?_;rintro e w8 ⟨rfl,a4⟩;have d9:zc w2 w8:=(d8.trans d4).trans a4;have k4:0<T1.length:=E.out.2.2.2;have k5:T1.length<=10000:=E.out.2.1;obtain ⟨k1,h6⟩:∃k,T1.length=k+1:=⟨T1.length - 1,by omega⟩;have hw:IntKind.i64.wrap ((T1.length:Int) - 1)=(k1:Int):=by rw [DZ];omega
 have j9:k1<=T1.length:=by omega
 have e1:ByteArray.extract ⟨T1.toArray⟩ 0 k1=⟨T0.toArray⟩:=by rw [B.out.t0,show T1.length - 1=k1 by omega];exact ext_take T1 k1
 clear d8 d4 a4 b8 h6
 go_wp2_with fail
 refine (b9.out T0 (fun _=>True) (.slice none 0 0) [] 0 H.length (by have h1:=E.out;rw [B.out.t0,Eu];omega) (by decide) ⟨_,B.out.o0,rfl,by rw [<-B.out.id.2.1];rfl,rfl⟩ _ d9 (zl.nil _ _)).mono ?_;rintro e w9 ⟨rfl,a4⟩;have g8:zc w2 w9:=d9.trans a4;clear d9 a4;go_upto_region 11 with fail;refine DU (S:=(fun W=>zc w2 W)) AC (g8.drew) fun zH=>?_;generalize w9.drew=wd at zH⊢;refine zA 0 zH ?_;refine zA 1 zH ?_;simp only [zd,DB];refine zA 2 zH ?_;refine zA 3 zH ?_;simp only [zd,DB];refine zA 4 zH ?_;refine zA 5 zH ?_;simp only [zd,DB];refine Ae 6 fun K hK=>?_;go_simp;go_at_call 9;refine (G.out T0 U 9 true 0 (.inr (.inl rfl)) (by have h1:=E.out;rw [B.out.t0,Eu];omega) (by decide) B.out.rB _ zH).mono ?_;rintro e w10 ⟨rfl,f2⟩;go_simp;refine EI hK (zH.trans f2) fun zH=>?_;clear hK K;try simp only [zd,DB]
 refine zA 7 zH ?_;refine zA 8 zH ?_;simp only [zd,DB];refine zA 9 zH ?_;refine zA 10 zH ?_;simp only [zd,DB];refine zA 11 zH ?_;refine zA 12 zH ?_;simp only [zd,DB];refine zA 13 zH ?_;simp only [zd,DB];refine Eh (by kernel_rfl) ?_ _;have a9:=zH;clear zH g8
 go_wp2_with fail
 refine (V.out U (.inr (.inl rfl)) (by have:=E.out;omega) _ (a9)).mono ?_;rintro e w11 ⟨vp11,vr11,rfl,c0,J,a5⟩;rw [B.out.id.2.1,B.out.qB] at J a5⊢;obtain ⟨A11,c11,B11,d11,rfl,-⟩:=a5.form;obtain ⟨_,⟨Ap11,cp11,rfl,-,-⟩,-⟩:=_root_.id J;have e5:=zh J;have b0:zc w2 w11:=(a9).trans c0;have i1:∀o,zc w2 (w11.alloc o):=fun o=>b0.alloc o
 clear c0 a5 J;clear a9
 go_wp2_with fail
 refine (V.out H (.inl rfl) (by have:=E.out;omega) _ (b0.alloc _)).mono ?_;rintro e w12 ⟨vp12,vr12,rfl,a0,O,a6⟩;have g0:=a0;rw [B.out.id.2.1,B.out.qH] at O a6⊢;obtain ⟨A12,c12,B12,d12,rfl,-⟩:=a6.form;obtain ⟨_,⟨Ap12,cp12,rfl,-,-⟩,-⟩:=_root_.id O;have i4:=zh O;have b1:zc w2 w12:=(b0.alloc _).trans a0;have i2:∀o,zc w2 (w12.alloc o):=fun o=>b1.alloc o
 clear a0 a6 O
 go_wp2_with fail
 refine (V.out [] (.inr (.inr rfl)) (by have:=E.out;simp) _ (b1.alloc _)).mono ?_;rintro e w13 ⟨vp13,vr13,rfl,a1,Q,a7⟩;have a8:=a1;rw [B.out.id.2.1,B.out.qN] at Q a7⊢;obtain ⟨A13,c13,B13,d13,rfl,-⟩:=a7.form;obtain ⟨_,⟨Ap13,cp13,rfl,-,-⟩,-⟩:=_root_.id Q;have i5:=zh Q;have c7:zc w2 w13:=(b1.alloc _).trans a1;have i3:∀o,zc w2 (w13.alloc o):=fun o=>c7.alloc o
 clear a1 a7 Q;have a8:zc w11 w13:=(((zc.refl w11).alloc _).trans g0).trans (((zc.refl w12).alloc _).trans a8);have b2:zc w2 (w13.alloc (.cells #[.int .i64 PT.zero.task,.slice A13 PT.zero.side.length c13,.slice B13 PT.zero.kids.length d13] 42)):=c7.alloc _
 go_wp2_with fail
 refine (G.out H [] (-1) false 1 (.inl rfl) (by have:=E.out;omega) (by decide) B.out.rC _ b2).mono ?_;rintro e w15 ⟨rfl,c6⟩;have b3:zc w2 w15:=b2.trans c6
 go_wp2_with fail
 refine (G.out H H 0 false 0 (.inl rfl) (by have:=E.out;omega) (by decide) B.out.rD _ b3).mono ?_;rintro e w16 ⟨rfl,a2⟩;have c8:zc w2 w16:=b3.trans a2;have b5:Hid (zc w11 w16):=(((a8.alloc _).trans c6).trans a2);have e2:zc w16 ((w16.alloc (.cells #[.int .i64 0,.int .i64 1,.int .i64 2] 3)).alloc (.cells #[.slice (some ⟨w16.heap.size,0,none⟩) 3 3] 39)):=((zc.refl w16).alloc _).alloc _
 have f8:zV ((w16.alloc (.cells #[.int .i64 0,.int .i64 1,.int .i64 2] 3)).alloc (.cells #[.slice (some ⟨w16.heap.size,0,none⟩) 3 3] 39)) (fun _=>True) (.slice (some ⟨w16.heap.size+1,0,none⟩) 1 1) [[0,1,2]]:=
  ⟨[.slice (some ⟨w16.heap.size,0,none⟩) 3 3],⟨_,_,rfl,DE _,AD.block (cs:=#[.slice (some ⟨w16.heap.size,0,none⟩) 3 3]) (zg.new (w16.alloc (.cells #[.int .i64 0,.int .i64 1,.int .i64 2] 3)) _ _ (by simp)) trivial rfl⟩,fun i x D=>by
   match i,D with
   | 0,D=>
    have:[0,1,2]=x:=by simpa using D
    subst this;exact ⟨_,rfl,⟨_,_,rfl,DE _,AD.block (cs:=#[.int .i64 0,.int .i64 1,.int .i64 2]) ((zg.new w16 #[.int .i64 0,.int .i64 1,.int .i64 2] 3 rfl).alloc _) trivial rfl⟩⟩⟩
 have g9:=zh (samePaths_t _ rfl (e5.out.below (b5.out.trans e2)) f8 (by simp) (fun x D=>by simp at D;rw [D];simp));have h5:Hid (zc w2 ((w16.alloc (.cells #[.int .i64 0,.int .i64 1,.int .i64 2] 3)).alloc (.cells #[.slice (some ⟨w16.heap.size,0,none⟩) 3 3] 39))):=c8.trans e2;clear b2 b3 c8 a2 f8 e2
 go_wp2_with fail
 refine g9.out.mono ?_;rintro e w17 ⟨rfl,hD⟩
 go_wp2_with fail
 go_ret;exact ⟨rfl,(e9.out.trans h5.out).trans (hD.below _)⟩
theorem runJ_len {m:MZ} (g:zX m) {b lim:Int} (I:b+lim<=20000):∀(f:Nat) (r:RS) (sg:List UInt8),RInv m r->sg.length<=1000->r.steps<=20000->(runJ m b lim f r sg).1.length<=7000*f
 | 0,r,sg,_,_,_=>by simp [runJ]
 | f+1,r,sg,M,O,ht=>by
  by_cases h:r.done=true\/lim<=r.steps - b
  ·rw [runJ_stop h];simp
  ·obtain ⟨r',d⟩:∃r',RS.run m (min (16 - r.steps % 16) (lim - (r.steps - b))).toNat r=r':=⟨_,rfl⟩;rw [runJ_go h d]
   have J:r.steps - b<lim:=by
    rcases Int.lt_or_le (r.steps - b) lim with q | q
    ·exact q
    ·exact absurd (.inr q) h
   have B:=(BP m (min (16 - r.steps % 16) (lim - (r.steps - b))).toNat r).2.1;rw [d] at B;have o:RInv m r':=by rw [<-d];exact M.run _
   have K:=Int.emod_lt_of_pos r.steps (show (0:Int)<16 by decide)
   have E:r'.steps<=20000:=by
    generalize r.steps % 16=q at B K;obtain ⟨kN,D⟩:∃k:Nat,k=(min (16 - q) (lim - (r.steps - b))).toNat:=⟨_,rfl⟩;rw [<-D] at B;have h1:(kN:Int)<=lim - (r.steps - b):=by omega
    omega
   have G:=o.st;obtain ⟨i1,i2⟩:=run_i64 g o;have h1:=recB_le (sg:=sg) (ch:=r'.ch) (st:=r'.steps) O i1 ⟨by omega,by omega⟩ i2;have Q:=runJ_len g I f r' (zT sg r'.ch r'.steps) o (by rw [AT];omega) E;show (zU sg r'.ch r'.steps++_).length<=_;rw [DM];omega
theorem runF_len (g:zX m) (hid:id.length=8) (E:∀x,zE m (zv id) id s=some x->x.steps<=20000):(BC m (zv id) id s n).1.length<=s.length+7000*n:=by
 unfold BC
 cases d:zE m (zv id) id s with
 | none=>simp
 | some x=>
  simp only;rw [if_neg (by omega)];obtain ⟨h1,o,G⟩:=open_b (good_chk g) hid d;have B:=E x d;have I:=runJ_len g (b:=x.steps) (lim:=min (20000 - x.steps) (n:Int)) (by omega) (min (20000 - x.steps) (n:Int)).toNat (loadS m x.ch x.steps) x.sg (BJ o).2 (by rw [h1.sg];omega) B;show (s.take x.fin++_).length<=_;rw [DM,Eu];have D:(min (20000 - x.steps) (n:Int)).toNat<=n:=by omega
  have J:=Nat.mul_le_mul_left 7000 D;omega
def CutsV (w:World) (v:Value) (l:List (Nat×Nat)):Prop:=
 ∃A c,v=.slice A l.length c/\∀(k:Nat) (h:k<l.length),∃b off,A=some ⟨b,off,none⟩/\w.cell? ⟨b,off+k*2,none⟩=some (.int .u8 (l[k].1:Nat))/\w.cell? ⟨b,off+k*2+1,none⟩=some (.int .u16 (l[k].2:Nat))/\l[k].1<=255/\l[k].2<=65535
theorem CutsV.ext {w:World} {l:List (Nat×Nat)} (h:CutsV w v l) (d:zc w w'):CutsV w' v l:=by
 obtain ⟨A,c,e,h⟩:=h;refine ⟨A,c,e,fun k E=>?_⟩;obtain ⟨b,off,h1,o,B,D⟩:=h k E;exact ⟨b,off,h1,d.cell o,d.cell B,D⟩
theorem tornB_steps (g:zX m) {B:Nat} (h:TornB m (zv id) id s B) (E:B<=20000):∀x,zE m (zv id) id s=some x->x.steps<=20000:=fun x d=>by
 obtain ⟨ns,e,-,h1,o,D,-⟩:=tornB_open g h;rw [h1] at d;injection d with d;rw [<-d,o.st];omega
theorem resF_same {x y:JS} (o:zE m h id s=some x) (B:zE m h id t=some y) (h1:x.ch=y.ch) (d:x.steps=y.steps):Bx m h id s=Bx m h id t:=by
 unfold Bx;rw [o,B];simp only [h1,d]
theorem resF_b (g:zX m) (D:Lens m) {x:JS} (G:zE m h id s=some x) (d:loadE m x.ch x.steps=0):(Bx m h id s).1.length<=1000/\(∀p∈(Bx m h id s).1,p.length<=1000)/\(Bx m h id s).2.1.Lens/\(Bx m h id s).2.1.size<=3000:=by
 have E:=(BJ d).2.ch;have hf:=found_len g D (show zG m x.ch from E)
 have B:PT.zero.Lens:=by
  unfold PT.zero PT.Lens PT.LensL;exact ⟨by simp,by simp,True.intro⟩
 have o:PT.zero.size<=3000:=by decide
 unfold Bx;rw [G];simp only
 split
 ·exact ⟨hf.1,hf.2,B,o⟩
 ·split
  ·exact ⟨by simp,by simp,B,o⟩
  ·split
   ·exact ⟨by simp,by simp,B,o⟩
   ·exact ⟨by simp,by simp,makeP_lens D,makeP_size⟩
def ResR (W:World) (R:List (List Int)×PT×Int) (e:Ending) (w':World):Prop:=
 ∃Ap cp As cs Ak ck,e=.returned (.tuple #[.slice Ap R.1.length cp,.agg #[.int .i64 R.2.1.task,.slice As R.2.1.side.length cs,.slice Ak R.2.1.kids.length ck],.int .i64 R.2.2])/\zc W w'/\zV w' (fun _=>True) (.slice Ap R.1.length cp) R.1/\Ck w' (fun _=>True) (.agg #[.int .i64 R.2.1.task,.slice As R.2.1.side.length cs,.slice Ak R.2.1.kids.length ck]) R.2.1
theorem CX.r {e:Ending} {R:List (List Int)×PT×Int} (h:CX W m id s e w') (B:R=Bx m (zv id) id s):ResR W R e w':=by
 obtain ⟨vp,vr,rfl,o,hI,d⟩:=h;rw [<-B] at hI d⊢;obtain ⟨As,cs,Ak,ck,rfl,-⟩:=d.form;obtain ⟨_,⟨Ap,cp,rfl,-,-⟩,-⟩:=_root_.id hI;exact ⟨_,_,_,_,_,_,rfl,o,hI.weaken fun _ _=>trivial,d.wk fun _ _ _=>trivial⟩
theorem b41 {k:Nat} (h:k<=8):1000+1785000*k<=30000000/\1000+1785000*(k+1)<=30000000:=by omega
theorem jtorn_calls {vp:Value} {ls:List (List Int)} {bs:List (Nat×Nat)} (w:World) (hv:zq w) (hl:zV w ok v ls) (q2:ls.length<=9223372036854775807) (j8:∀x∈ls,x.length<=9223372036854775807) (hb:CutsV w vp bs) (p3:bs.length<=9223372036854775807):
  Calls Tryz.prog 3 #[v,vp] w fun e w'=>e=.returned (.bool true)/\zc w w':=by
 have l3:=zh hl;have l4:=zh j8;have k9:=zh hb;have HV:=zh hv;obtain ⟨_,⟨A,c,rfl,p4,-⟩,-⟩:=_root_.id hl;obtain ⟨Ap,cp,rfl,-⟩:=hb;obtain ⟨N,hN⟩:=EH (min ls.length 4);have HN:=zh hN;have i5:N<=ls.length:=by omega
 have m7:N<=4:=by omega
 have j9:min (ls.length:Int) 4=(N:Int):=by omega
 clear hN j8 hv hl
 go_enter Tryz.func3,Tryz.ntmps3
 go_wp2_with fail
 refine (zsanity_calls w HV.out).mono ?_;rintro e w1 ⟨rfl,h8⟩;have g1:=zh h8;clear h8
 go_wp2_with fail
 refine (madeN_calls w1 (pref_intss (l3.out.below g1.out) i5) (by rw [Eu];omega) (fun x o=>l4.out x (List.mem_of_mem_take o))).mono ?_;rintro e w2 ⟨v2,m,ns,rfl,h9,hm,e7,k3⟩;have HM:=zh hm;have g7:=zh e7;have k2:ns.length=m.tasks.length:=by obtain ⟨_,_,_,-,-,-,h,-⟩:=hm;exact h
 have U:Hid (Small m ns):=e7.small k2 k3;obtain ⟨f,u,t,rfl,⟨_,⟨Af,cf,rfl,-,-⟩,-⟩,⟨Au,cu,rfl,-,-⟩,⟨-,_,⟨At,ct,rfl,-,-⟩,-⟩⟩:=hm;have l1:Hid (zc w w2):=g1.out.trans h9;clear h9 e7 k3 k2 j9 i5 m7;go_upto_region 3 with fail;obtain ⟨a6,r0,r1,r2,r3,r4,r5⟩:=mz_box w2 m Af cf Au cu At ct;simp only [mzc] at a6 r0 r1 r2 r3 r4 r5;generalize w2.alloc _=w3 at a6 r0 r1 r2 r3 r4 r5⊢;generalize w2.heap.size=gm at r0 r1 r2 r3 r4 r5⊢;have a4:=zh (HM.out.below a6);have b5:Hid (zc w w3):=l1.out.trans a6;have b4:Hid (zq w3):=HV.out.ext b5.out;have k7:=zh (k9.out.ext b5.out);have HG:Hid (zX m):=g7.out.good;have b0:Hid (BS m=0):=good_chk HG.out;have Q:Hid (Lens m):=g7.out.lens;obtain ⟨I,hI⟩:=EH (Dl (AG m ns));have b2:Hid (I.length=8):=by (show _=_);rw [hI];exact Bd _
 have g0:Hid (Calls Tryz.prog 8 #[.agg #[.int .i64 m.w,.int .i64 m.h,.int .i64 m.l,.slice Af m.free.length cf,.slice Au m.up.length cu,.slice At m.tasks.length ct]] w3 fun e w'=>e=.returned (.tuple #[.string ⟨(zv I).toArray⟩,.int .i64 0])/\zc w3 w'):=by rw [hI];exact jBegin_calls w3 b4.out a4.out U.out Q.out b0.out
 have J:Hid (∀(S:List UInt8) (n:Nat),S.length<=40000000->n<=1000->(∀x,zE m (zv I) I S=some x->x.steps<=20000)->∀W,zc w3 W->Calls Tryz.prog 9 #[.agg #[.int .i64 m.w,.int .i64 m.h,.int .i64 m.l,.slice Af m.free.length cf,.slice Au m.up.length cu,.slice At m.tasks.length ct],.string ⟨S.toArray⟩,.int .i64 n] W (CM W m I S n)):=fun S n hS hn o W h=>by
  rw [hI] at o⊢;exact jRun_calls n W (b4.out.ext h) (a4.out.below h) U.out Q.out b0.out hS (by omega) o
 have l8:Hid (∀(S:List UInt8),S.length<=40000000->∀W,zc w3 W->Calls Tryz.prog 13 #[.agg #[.int .i64 m.w,.int .i64 m.h,.int .i64 m.l,.slice Af m.free.length cf,.slice Au m.up.length cu,.slice At m.tasks.length ct],.string ⟨S.toArray⟩] W (ReadPost W m I S)):=fun S hS W h=>by
  rw [hI];exact jRead_calls W (b4.out.ext h) (a4.out.below h) U.out Q.out b0.out hS
 have e0:Hid (∀(S:List UInt8),S.length<=40000000->(∀x,zE m (zv I) I S=some x->x.steps<=20000)->∀W,zc w3 W->Calls Tryz.prog 10 #[.agg #[.int .i64 m.w,.int .i64 m.h,.int .i64 m.l,.slice Af m.free.length cf,.slice Au m.up.length cu,.slice At m.tasks.length ct],.string ⟨S.toArray⟩] W (CX W m I S)):=fun S hS o W h=>by
  rw [hI] at o⊢;exact jResult_calls W (b4.out.ext h) (a4.out.below h) U.out Q.out b0.out hS o (fun _ _ _ _ W' h'=>pmake_calls W' ((a4.out.below h).below h').maze Q.out)
 have b1:Hid ((zv I).length<=1000):=by
  have h0:=b2.out;have h1:=Cb (s:=Cy) (by decide);have h2:=Cb (s:=I) (by omega);have h3:Cy.length=5:=rfl;show (wT Cy++wT I).length<=_;rw [DM];omega
 have n5:zc w3 w3:=zc.refl w3;clear a6 hI
 go_wp2_with fail
 refine g0.out.mono ?_;rintro e w4 ⟨rfl,i0⟩;have f5:zc w3 w4:=i0;clear i0 n5 g0
 have d7:Hid (∀(S:List UInt8),S.length<=40000000->(∀x,zE m (zv I) I S=some x->x.steps<=20000)->∀W,zc w3 W->Calls Tryz.prog 10 #[.agg #[.int .i64 m.w,.int .i64 m.h,.int .i64 m.l,.slice Af m.free.length cf,.slice Au m.up.length cu,.slice At m.tasks.length ct],.string ⟨S.toArray⟩] W (CX W m I S)):=fun S hS o W h=>by
  have h1:=e0.out S hS o W h;exact h1
 obtain ⟨H,hH⟩:=EH (zv I);rw [<-hH] at J b1⊢;have HH:=zh hH;obtain ⟨W0,O,f3⟩:=jat_run HG.out (jat_begin m H I) (n:=300) (by omega);obtain ⟨T0,i9⟩:∃T,T=H++W0:=⟨_,rfl⟩;rw [Nat.zero_add,<-i9] at O f3;have a9:∀x,zE m H I H=some x->x.steps<=20000:=by rw [hH];exact tornB_steps HG.out (tornB_begin m (zv I) I) (by omega)
 have a8:=runF_len HG.out b2.out (n:=300) (s:=H) (by rw [<-hH];exact a9);rw [<-hH,O] at a8
 have l9:Hid (T0.length<=3000000):=by
  have h1:=b1.out;have h2:T0.length<=H.length+7000*300:=a8;show _<=_;omega
 obtain ⟨d0,f2⟩:∃d,d=(zK m 300).done:=⟨_,rfl⟩
 have d8:Hid (Calls Tryz.prog 9 #[.agg #[.int .i64 m.w,.int .i64 m.h,.int .i64 m.l,.slice Af m.free.length cf,.slice Au m.up.length cu,.slice At m.tasks.length ct],.string ⟨H.toArray⟩,.int .i64 300] w4 fun e w'=>e=.returned (.tuple #[.string ⟨T0.toArray⟩,.bool d0,.int .i64 0])/\zc w4 w'):=by
  have h:=J.out H 300 (by have:=b1.out;omega) (by omega) a9 w4 f5;unfold CM at h;rw [<-hH,O,<-f2] at h;exact h
 have g6:=zh f3;have l0:=zh f2;clear hH O f3 i9 a9 a8 f2
 go_wp2_with fail
 refine d8.out.mono ?_;rintro e w5 ⟨rfl,i1⟩;have d4:zc w3 w5:=f5.trans i1;clear i1 f5 d8
 cases d0 with
 | false=>
  have g3:Hid (zc w w5):=b5.out.trans d4;clear d4
  go_wp2_with fail
  go_ret;exact ⟨rfl,g3.out⟩
 | true=>
  have h7:=zh d4
  go_wp2_with fail
  clear d4;go_loopw [12,13] (fun v12 v13 wr=>∃(k B:Nat) (S:List UInt8),v12=.string ⟨S.toArray⟩/\v13=.int .i64 k/\k<=8/\B<=255*k/\Hid (S.length<=1000+1785000*k)/\Hid (TornB m H I S B)/\Hid (zc w3 wr)) (fun _ v13 _=>8 - (intOf v13).toNat)
  case atStart=>exact ⟨0,0,H,rfl,rfl,by omega,by omega,b1.out,tornB_begin _ _ _,h7.out⟩
  clear h7
  case round=>
   obtain ⟨k,B,S,rfl,rfl,c6,hB,b3,e3,HX⟩:=hrel;obtain ⟨wk,rfl⟩:∃wk:World,wk=wr:=⟨_,rfl⟩;have o:zc w3 wk:=HX.out;have b7:Hid (∀x,zE m H I S=some x->x.steps<=20000):=by (show ∀x,_);rw [HH.out];exact tornB_steps HG.out (by rw [<-HH.out];exact e3.out) (by omega)
   by_cases j6:k<bs.length/\k<8
   ·obtain ⟨j7,n0⟩:=j6;have p5:decide ((k:Int)<(bs.length:Int))=true:=DH (by omega);have p6:decide ((k:Int)<8)=true:=DH (by omega);have p7:decide (k<bs.length)=true:=DH j7;have p8:decide (k<8)=true:=DH n0;have p9:(k:Int)<(bs.length:Int):=by omega
    have o1:(0:Int)<=(k:Int):=by omega
    obtain ⟨A9,c9,e9,j3⟩:=k7.out;injection e9 with e91 e92 e93;subst e91;obtain ⟨bb,off,rfl,f0,f1,m8,m9⟩:=j3 k j7;obtain ⟨n,hn⟩:=EH (bs[k].1);obtain ⟨q,hq⟩:∃n,n=bs[k].2:=⟨_,rfl⟩;rw [<-hn] at f0 m8;rw [<-hq] at f1 m9;have qn:=zc.rule f0;have qq:=zc.rule f1;have q3:IntKind.i64.wrap (n:Int)=(n:Int):=by rw [DZ];omega
    have q4:IntKind.i64.wrap (q:Int)=(q:Int):=by rw [DZ];omega
    clear f0 f1 hn hq j3 e92 e93;obtain ⟨T,e,D,c7,he,c0,c8⟩:=tornB_run HG.out e3.out (n:=n) (by omega);have G:=runF_len HG.out b2.out (n:=n) (s:=S) (by rw [<-HH.out];exact b7.out);rw [<-HH.out,D] at G
    have e2:Hid (∀W,zc w3 W->Calls Tryz.prog 9 #[.agg #[.int .i64 m.w,.int .i64 m.h,.int .i64 m.l,.slice Af m.free.length cf,.slice Au m.up.length cu,.slice At m.tasks.length ct],.string ⟨S.toArray⟩,.int .i64 n] W fun e' w'=>e'=.returned (.tuple #[.string ⟨T.toArray⟩,.bool (zK m (e+n)).done,.int .i64 0])/\zc W w'):=fun W hW=>by
     have h:=J.out S n (DG b3.out (DG (b41 c6).1 (by decide))) (by omega) b7.out W hW;unfold CM at h;rw [<-HH.out,D] at h;exact h
    obtain ⟨M,hM⟩:=EH (max H.length (T.length - q));have o9:M<=T.length:=by omega
    have m5:H.length<=M:=by omega
    have m6:max (H.length:Int) ((T.length:Int) - (q:Int))=(M:Int):=by omega
    have j2:T.length<=1000+1785000*(k+1):=by
     have h1:=b3.out;have h2:T.length<=S.length+7000*n:=G;omega
    have j1:T.length<=30000000:=DG j2 (b41 c6).2;have n4:IntKind.i64.wrap ((T.length:Int) - (q:Int))=(T.length:Int) - (q:Int):=by rw [DZ];omega
    have e1:ByteArray.extract ⟨T.toArray⟩ 0 M=⟨(T.take M).toArray⟩:=ext_take T M;have h4:Hid ((T.take M).length<=1000+1785000*(k+1)):=by (show _<=_);rw [Eu];omega
    have h6:Hid (TornB m H I (T.take M) (B+n)):=tornB_take c8 m5;have k8:Hid (B+n<=255*(k+1)):=by (show _<=_);omega
    obtain ⟨S2,i8⟩:∃S,S=T.take M:=⟨_,rfl⟩;rw [<-i8] at h4 h6 e1;have o7:H.length<=T.length:=c7;have p2:(M:Int)<=(T.length:Int):=by omega
    clear D c7 he c0 c8 G hM j2 i8 j1;go_upto_region 13 with fail;go_cut [14,15,16] (fun v14 v15 v16 wc=>v14=.string ⟨T.toArray⟩/\v15=.bool (zK m (e+n)).done/\v16=.int .i64 0/\Hid (zc w3 wc))
    case first=>
     clear e1 n4 m6;refine DU (S:=(fun W=>zc wk W)) AC ((zc.refl wk).drew) fun zH=>?_;have q0:∀W,zc wk W->zc w3 W:=fun W h=>o.trans h
     generalize wk.drew=wd at zH⊢;refine zA 0 zH ?_;refine zA 1 zH ?_;simp only [zd,DB];refine zA 2 zH ?_;refine zA 3 zH ?_;simp only [zd,DB];refine zA 4 zH ?_;refine zA 5 zH ?_;simp only [zd,DB];refine zA 6 zH ?_;refine zA 7 zH ?_;simp only [zd,DB];refine Ae 8 fun K hK=>?_;go_simp;go_at_call 9;refine (e2.out _ (o.trans zH)).mono ?_;rintro e' w6 ⟨rfl,b9⟩;go_simp;refine EI hK (zH.trans b9) fun zH=>?_;clear hK K;try simp only [zd,DB]
     refine zA 9 zH ?_;refine zA 10 zH ?_;simp only [zd,DB];refine zA 11 zH ?_;refine zA 12 zH ?_;simp only [zd,DB];refine zA 13 zH ?_;refine zA 14 zH ?_;simp only [zd,DB];refine zA 15 zH ?_;simp only [zd,DB];refine Eh (by kernel_rfl) ?_ _;have b6:Hid (zc w3 _):=o.trans zH;clear zH o q0 qn qq;go_wp2;go_meet;exact ⟨rfl,rfl,rfl,b6⟩
    case rest=>
     obtain ⟨rfl,rfl,rfl,b6⟩:=hcut;obtain ⟨w6,rfl⟩:∃w6:World,w6=wc:=⟨_,rfl⟩;have d5:zc w3 w6:=b6.out;clear o
     go_wp2_with fail
     go_roundw
     case rel=>exact ⟨k+1,B+n,S2,rfl,by go_num,by omega,k8.out,h4.out,h6.out,b6.out⟩
     case measure=>simp [intOf];omega
   ·have n3:decide (k<bs.length)=false\/(decide (k<bs.length)=true/\decide ((k:Int)<8)=false):=by
     by_cases h1:k<bs.length
     ·exact .inr ⟨DH h1,DI (by omega)⟩
     ·exact .inl (DI h1)
    obtain ⟨T,e,D,c7,he,c0,c8⟩:=tornB_run HG.out e3.out (n:=300) (by omega);obtain ⟨j5,x,y,E,f8,j4,f4,d9,-⟩:=torn_law HG.out l0.out.symm g6.out c0;have G:=runF_len HG.out b2.out (n:=300) (s:=S) (by rw [<-HH.out];exact b7.out);rw [<-HH.out,D] at G
    have m0:Hid (T.length<=40000000):=by
     have h1:=DG b3.out (b41 c6).1;have h2:T.length<=S.length+7000*300:=G;show _<=_;omega
    rw [j5] at D
    have e2:Hid (∀W,zc w3 W->Calls Tryz.prog 9 #[.agg #[.int .i64 m.w,.int .i64 m.h,.int .i64 m.l,.slice Af m.free.length cf,.slice Au m.up.length cu,.slice At m.tasks.length ct],.string ⟨S.toArray⟩,.int .i64 300] W fun e' w'=>e'=.returned (.tuple #[.string ⟨T.toArray⟩,.bool true,.int .i64 0])/\zc W w'):=fun W hW=>by
     have h:=J.out S 300 (DG b3.out (DG (b41 c6).1 (by decide))) (by omega) b7.out W hW;unfold CM at h;rw [<-HH.out] at h;have h':BC m H I S ((300:Nat):Int)=(T,true,0):=D;rw [h'] at h;exact h
    have f7:x.steps<=20000:=by
     obtain ⟨z,h1,-,-,h2⟩:=jat_read HG.out g6.out;rw [h1] at E;injection E with E;rw [<-E,h2];have:=(CO m 300).2.1;omega
    obtain ⟨R,hR⟩:=EH (Bx m H I T0);have l6:Hid (∀W,zc w3 W->Calls Tryz.prog 10 #[.agg #[.int .i64 m.w,.int .i64 m.h,.int .i64 m.l,.slice Af m.free.length cf,.slice Au m.up.length cu,.slice At m.tasks.length ct],.string ⟨T0.toArray⟩] W (ResR W R)):=fun W hW=>(d7.out T0 (by have:=l9.out;omega) (fun z hz=>by rw [<-HH.out,E] at hz;injection hz with hz;rw [<-hz];exact f7) W hW).mono fun e w' h=>h.r (by rw [<-HH.out];exact hR)
    have l7:Hid (∀W,zc w3 W->Calls Tryz.prog 10 #[.agg #[.int .i64 m.w,.int .i64 m.h,.int .i64 m.l,.slice Af m.free.length cf,.slice Au m.up.length cu,.slice At m.tasks.length ct],.string ⟨T.toArray⟩] W (ResR W R)):=fun W hW=>(d7.out T m0.out (fun z hz=>by rw [<-HH.out,f8] at hz;injection hz with hz;rw [<-hz,<-f4];exact f7) W hW).mono fun e w' h=>h.r (by rw [<-HH.out,hR];exact resF_same E f8 j4 f4)
    have a5:Hid (R.1.length<=1000/\(∀p∈R.1,p.length<=1000)/\R.2.1.Lens/\R.2.1.size<=3000):=by (show _/\_);rw [hR];exact resF_b HG.out Q.out E d9
    clear j6 D c7 he c0 c8 j5 E f8 j4 f4 d9 G f7 hR;rcases n3 with h1 | ⟨h1,h2⟩
    all_goals
     go_wp2_with fail
     refine (e2.out _ o).mono ?_;rintro e w6 ⟨rfl,b9⟩;have d5:zc w3 w6:=o.trans b9;clear b9
     go_wp2_with fail
     refine (l6.out _ d5).mono ?_;rintro e w7 ⟨Ap1,cp1,As1,cs1,Ak1,ck1,rfl,i2,i3,i6⟩;have k4:zc w3 w7:=d5.trans i2;clear i2 o;go_upto_region 19 with fail;have a7:zc w7 (w7.alloc (.cells #[.int .i64 R.2.1.task,.slice As1 R.2.1.side.length cs1,.slice Ak1 R.2.1.kids.length ck1] 42)):=(zc.refl w7).alloc _;have V:=zg.new w7 #[.int .i64 R.2.1.task,.slice As1 R.2.1.side.length cs1,.slice Ak1 R.2.1.kids.length ck1] 42 (g:=w7.heap.size) rfl;generalize w7.alloc _=wA at a7 V⊢;generalize w7.heap.size=gA at V⊢;have f6:zc w3 wA:=k4.trans a7;have l2:=zh (i3.below a7);have l5:=zh (i6.ext a7);have u0:=zc.rule (V.cell (k:=0) rfl);have u1:=zc.rule (V.cell (k:=1) rfl);have u2:=zc.rule (V.cell (k:=2) rfl);clear d5 k4 a7 V i3 i6
     go_wp2_with fail
     refine (l7.out _ f6).mono ?_;rintro e w8 ⟨Ap2,cp2,As2,cs2,Ak2,ck2,rfl,e5,i4,i7⟩;have k5:zc w3 w8:=f6.trans e5;go_upto_region 20 with fail;have a1:zc w8 (w8.alloc (.cells #[.int .i64 R.2.1.task,.slice As2 R.2.1.side.length cs2,.slice Ak2 R.2.1.kids.length ck2] 42)):=(zc.refl w8).alloc _;have a0:=zg.new w8 #[.int .i64 R.2.1.task,.slice As2 R.2.1.side.length cs2,.slice Ak2 R.2.1.kids.length ck2] 42 (g:=w8.heap.size) rfl;generalize w8.alloc _=wB at a1 a0⊢;generalize w8.heap.size=gB at a0⊢;have e4:zc wA wB:=e5.trans a1;have g4:=zh (l2.out.below e4);have g8:=zh (l5.out.ext e4);have g5:=zh (i4.below a1);have g9:=zh (i7.ext a1);have m1:Hid (zc w wB):=b5.out.trans (k5.trans a1);have v0:=zc.rule (a0.cell (k:=0) rfl);have v1:=zc.rule (a0.cell (k:=1) rfl);have v2:=zc.rule (a0.cell (k:=2) rfl);have h5:=zh (samePaths_t wB rfl g4.out g5.out a5.out.1 a5.out.2.1);clear f6 k5 e5 a1 a0 i4 i7
     go_wp2_with fail
     refine h5.out.mono ?_;rintro e wC ⟨rfl,hD⟩;have b8:zc wB wC:=hD.below _;have o6:zc wA wC:=e4.trans b8
     have U:Hid (Calls Tryz.prog 12 #[.agg #[.int .i64 R.2.1.task,.slice As1 R.2.1.side.length cs1,.slice Ak1 R.2.1.kids.length ck1],.agg #[.int .i64 R.2.1.task,.slice As2 R.2.1.side.length cs2,.slice Ak2 R.2.1.kids.length ck2]] wC fun e w'=>e=.returned (.bool true)/\zc wC w'):=by
      have h:=psame_calls 3000 wC (g8.out.ext b8) (g9.out.ext b8) a5.out.2.2.2 a5.out.2.2.1 a5.out.2.2.1;rw [sameP_refl] at h;exact h
     have m2:Hid (zc w wC):=m1.out.trans b8;clear hD h5
     go_wp2_with fail
     refine U.out.mono ?_;rintro e wD ⟨rfl,m4⟩
     go_wp2_with fail
     go_ret;exact ⟨rfl,m2.out.trans m4⟩
end
section
open Go.ChangeShapes Go.WideShapes Go.ChangeAt Go.RowKit
section
variable {H:Type} {enc:TypeId×Value->H} {w:World} {base:Nat} {held:Bool} {fuel:Nat} {cs:List Value} {x:DataW H×List MemPlace}
theorem sliceOpenN {t e:TypeId} {sz:Nat} (ht:Tryz.prog.underlying t=some (.slice e)) (O:Tryz.prog.cellsOf e=sz) (h0:0<sz) (h:DataW.trod enc Tryz.prog w base (fun _=>true) held fuel t cs=some x):
  ∃A len c,cs=[.slice A len c]/\len<=c/\len<=9223372036854775807/\(0<len->∃b off,A=some ⟨b,off,none⟩/\∀i,i<len->∃(cl:List Value) (n:Nat) (y:DataW H×List MemPlace),n<fuel/\cl.length=sz/\(∀j,j<sz->w.cell? ⟨b,off+(i*sz+j),none⟩=cl[j]?)/\DataW.trod enc Tryz.prog w base (fun _=>true) held n e cl=some y):=by
 rcases DataW.trod_slice ht h with ⟨rfl,_⟩ | ⟨a,len,cap,elems,rest,n,V,rfl,_,hb,hl,hm,U,J,_,_⟩
 ·exact ⟨none,0,0,rfl,DE _,by decide,fun h=>by omega⟩
 ·refine ⟨some a,len,cap,rfl,hl,by unfold maxLen at hm;omega,fun D=>?_⟩
  have each:∀i,i<len->∃(cl:List Value) (y:DataW H×List MemPlace),w.cells? base (a.add (i*sz)) sz=some cl/\DataW.trod enc Tryz.prog w base (fun _=>true) held n e cl=some y:=fun i K=>by
   have h1:=J i K;rw [O,DC (by omega)] at h1;obtain ⟨cl,d,E⟩:=Option.bind_eq_some_iff.1 h1;exact ⟨cl,_,d,E⟩
  have M:a.spot=none:=by
   obtain ⟨cl,y,d,_⟩:=each 0 D;obtain ⟨_,Q,G⟩:=World.cells?_some d;have B:=G 0 h0;rw [DC (by omega)] at B;have I:=spot_none B;rw [Nat.zero_mul] at I;unfold Addr.add at I
   rwa [if_pos rfl,if_pos rfl] at I
  refine ⟨a.block,a.off,?_,fun i K=>?_⟩
  ·obtain ⟨b,o,s⟩:=a;simp only at M;subst M;rfl
  ·obtain ⟨cl,y,d,E⟩:=each i K;obtain ⟨_,Q,G⟩:=World.cells?_some d;refine ⟨cl,n,y,by omega,Q,fun j hj=>?_,E⟩;have B:=G j hj;rw [addr_at M,addr_at rfl] at B;rw [<-Nat.add_assoc];exact B
theorem fieldOpenN {t:TypeId} {fs:Array Field} (ht:Tryz.prog.underlying t=some (.struct fs)) (h:DataW.trod enc Tryz.prog w base (fun _=>true) held fuel t cs=some x):
  cs.length=Tryz.prog.cellsOf t/\∀(i ty off sz:Nat),(fs[i]?).map (fun f=>(f.type,f.offset))=some (ty,off)->Tryz.prog.cellsOf ty=sz->∃n y,n<fuel/\DataW.trod enc Tryz.prog w base (fun _=>true) held n ty ((cs.drop off).take sz)=some y:=by
 obtain ⟨xs,n,E,_,G,I,hf⟩:=DataW.trod_struct ht h;refine ⟨G,fun i ty off sz d D=>?_⟩;obtain ⟨f,d,he⟩:=Option.map_eq_some_iff.1 d;injection he with o B;have h1:=hf i f d;have J:i<fs.size:=(Ex.1 d).1;rw [DC (by omega),o,B,D] at h1;exact ⟨n,_,by omega,h1⟩
end
theorem vTab : Tryz.prog.globalNamed "internal/strconv.uint64pow10" = some 0 := by kernel_rfl
theorem vSyn : Tryz.prog.globalNamed "strconv.ErrSyntax" = some 2 := by kernel_rfl
theorem vRng : Tryz.prog.globalNamed "strconv.ErrRange" = some 3 := by kernel_rfl
theorem vtTab:(Tryz.prog.globals[0]?).map (·.type)=some 213:=by kernel_rfl
theorem vtSyn:(Tryz.prog.globals[2]?).map (·.type)=some 85:=by kernel_rfl
theorem vtRng:(Tryz.prog.globals[3]?).map (·.type)=some 85:=by kernel_rfl
theorem star4 : "*" ++ "errors.errorString" = "*errors.errorString" := by decide
theorem row314 (u : TypeId) (h : Tryz.prog.typeName? 3 u = some "*errors.errorString") : u = 243 :=
 typeName_ptr_named (nm := "errors.errorString") (by rw [star4]; kernel_rfl) (by kernel_rfl) (by decide) u (by rw [star4]; exact h)
theorem laid_tab:(Rows.laid_internal_strconv_uint64pow10:DataW Unit)=Lib.tabData .u64 Lib.pow10Tab:=by kernel_rfl
theorem varsOk_laid {a b: String × DataW Unit} (h : laidMet Tryz.prog [a, b, ("internal/strconv.uint64pow10", Rows.laid_internal_strconv_uint64pow10), ("strconv.ErrRange", Rows.laid_strconv_ErrRange), ("strconv.ErrSyntax", Rows.laid_strconv_ErrSyntax)] W) : zq W := by
 have h2:=h.tail.tail;obtain ⟨a0,s0,hv0,-,-,-⟩:=laid_sentinel h2.tail vRng vtRng Tryz.underlying85 row314 Tryz.underlying243 Tryz.underlying245 rfl rfl Tryz.underlying9 (by kernel_rfl) (by kernel_rfl);obtain ⟨a1,s1,hv1,-,-,-⟩:=laid_sentinel h2.tail.tail vSyn vtSyn Tryz.underlying85 row314 Tryz.underlying243 Tryz.underlying245 rfl rfl Tryz.underlying9 (by kernel_rfl) (by kernel_rfl);rw [laid_tab] at h2;exact ⟨Lib.tabIs_of_head vTab vtTab Tryz.underlying213 Tryz.underlying174 (by kernel_rfl) (by kernel_rfl) h2,⟨_,_,hv1⟩,⟨_,_,hv0⟩⟩
theorem intssArg {H:Type} {enc:TypeId×Value->H} {base:Nat} {v0:Value} {d0:DataW H} {p0:List MemPlace} (d:Value.okWide Tryz.prog W .any base 22 v0) (h0:DataW.Trod enc Tryz.prog W 0 (fun _=>true) true 22 v0 d0 p0):∃l,zV W (fun _=>True) v0 l/\l.length<=9223372036854775807/\∀a∈l,a.length<=9223372036854775807:=by
 obtain ⟨A,n,c,rfl⟩:=okWide_slice Tryz.underlying22 d;obtain ⟨fuel,h0⟩:=h0;obtain ⟨v,l,e0,h⟩:=intssOpen h0;have e1:Value.slice A n c=v:=by injection e0
 subst e1;exact ⟨l,h⟩
end
end Go.Proofs.YtfjjdmpndmbfoaaGreatDoor
