import Derived.Test.YtjomnbdjajjgfaaGreatDoorWJt
import Derived.Stop.LaidErr
import Derived.Lib.LaidTab
set_option linter.unusedVariables false
set_option linter.unusedSimpArgs false
set_option maxRecDepth 100000
set_option maxHeartbeats 16000000
namespace Go.Proofs.YtjomnbdjajjgfaaGreatDoor
variable {e:Ending} {ns:List ByteArray} {l:List Int} {id s:List UInt8} {m:MZ} {n:Nat} {ok:Nat->Prop} {vl:Value} {w':World}
section
open Go.RowKit Go.Shelf
attribute [local go_sem ↓] Go.wp_at_zero Go.wp_at_succ
def zM:MZ:=⟨3,1,1,[[true,true,true]],[false,false,false],[([0],[2])]⟩
def zN:List ByteArray:=[⟨#[97]⟩]
def zD:List UInt8:=[51,59,49,59,49,59,49,59,49,58,97,91,48,59,93,91,50,59,93,49,59,51,58,49,49,49,51,58,48,48,48]
theorem z_desc:zr zM zN=zD:=by decide +kernel
theorem z_chk:AV zM=0:=by decide +kernel
theorem z_good:zZ zM:=zZ.of z_chk
theorem z_lens:Lens zM:=⟨by simp [zM],by simp [zM],by simp [zM],fun t ht=>by
 simp only [zM,zaz,za8,or_false] at ht;rcases ht with rfl;simp⟩
theorem z_small:CP zM zN:=⟨by simp [zM],by simp [zM],by simp [zM],by simp [zM],by simp [zM,zN],fun t ht=>by
  simp only [zM,zaz,za8,or_false] at ht;rcases ht with rfl;refine ⟨by simp,by simp,fun n o=>?_⟩;simp at o;rcases o with rfl | rfl <;> exact ⟨by decide,by decide⟩,fun s D=>by
  simp only [zN,zaz,za8,or_false] at D;rcases D with rfl;decide,by simp [zM],fun f hf=>by
  simp only [zM,zaz,za8,or_false] at hf;rcases hf with rfl;simp,by simp [zM]⟩
theorem z_start:loadS zM [] 0=⟨[],false,0⟩:=by
 have h:zV zM []=false:=by decide +kernel
 unfold loadS;rw [h];rfl
theorem z_run2:RS.run zM 2 ⟨[],false,0⟩=⟨[0,1],false,2⟩:=by
 rw [run_x z_good.dim];have h:(RS.runX zM 2 ⟨[],false,0⟩).ch=[0,1]/\(RS.runX zM 2 ⟨[],false,0⟩).done=false/\(RS.runX zM 2 ⟨[],false,0⟩).steps=2:=by decide +kernel
 generalize RS.runX zM 2 ⟨[],false,0⟩=s at h;obtain ⟨c,d,n⟩:=s;obtain ⟨rfl,rfl,rfl⟩:=h;rfl
theorem z_run9:RS.run zM 9 ⟨[],false,0⟩=⟨[0,1,2],true,3⟩:=by
 rw [run_x z_good.dim];have h:(RS.runX zM 9 ⟨[],false,0⟩).ch=[0,1,2]/\(RS.runX zM 9 ⟨[],false,0⟩).done=true/\(RS.runX zM 9 ⟨[],false,0⟩).steps=3:=by decide +kernel
 generalize RS.runX zM 9 ⟨[],false,0⟩=s at h;obtain ⟨c,d,n⟩:=s;obtain ⟨rfl,rfl,rfl⟩:=h;rfl
def zI:List UInt8:=BB zD
def zH:List UInt8:=zx zI
def z1:List UInt8:=Ay zI [0,1] 2
def z2:List UInt8:=Ay zI [0,1,2] 3
theorem zI_len:zI.length=8:=Aw _
theorem open_head (g:zZ m):Aa m (zx id) id (zx id)=some (j0 id):=by
 unfold Aa;rw [if_pos (List.prefix_rfl),endJ_end (Fy _)];rfl
theorem z_open1:Aa zM zH zI (zH++z1.take (z1.length - 1))=some (j0 zI):=by
 unfold Aa;rw [if_pos (List.prefix_append ..),DN]
 ·rfl
 cases J:Aj zM (zH++z1.take (z1.length - 1)) ⟨[],0,zH.length,zI⟩ with
 | none=>rfl
 | some y=>
  exfalso
  obtain ⟨ch,st,-,-,hp,h4,G,-⟩:=EF J;rw [List.drop_left] at hp;have hp:Ay zI ch st <+: z1.take (z1.length - 1):=hp;have I:=hp.length_le;have E:=hp.trans (List.take_prefix ..);have hb:(BP ch st).length<=(Ay zI ch st).length:=by unfold Ay wT;simp;omega
  have O:z1.length<=1000:=by
   have:=recB_le (sg:=zI) (ch:=[0,1]) (st:=2) (by rw [zI_len];omega) (fun x o=>by simp at o;rcases o with rfl | rfl <;> exact ⟨by decide,by decide⟩) ⟨by decide,by decide⟩ (by simp);show (Ay zI [0,1] 2).length<=_;have h2:=body_len (ch:=[0,1]) (st:=2) (fun x o=>by simp at o;rcases o with rfl | rfl <;> exact ⟨by decide,by decide⟩) ⟨by decide,by decide⟩;have h3:=Bv (s:=BP [0,1] 2) (by simp at h2;omega);have h4:=Bv (s:=zY zI [0,1] 2) (by rw [By];omega);have G:=By zI [0,1] 2;unfold Ay;rw [FG];simp at h2;omega
  rw [za3] at I;have D:=recB_pos zI [0,1] 2;have M:0<z1.length:=D;obtain ⟨e1,e2⟩:=rec_same (sg:=zI) (l:=z1) ⟨h4,G,by omega⟩ ⟨fun x o=>by simp at o;rcases o with rfl | rfl <;> exact ⟨by decide,by decide⟩,⟨by decide,by decide⟩,(by have U:(BP [0,1] 2).length<=(Ay zI [0,1] 2).length:=(by unfold Ay wT;simp;omega);have V:(Ay zI [0,1] 2).length<=1000:=O;omega)⟩ E List.prefix_rfl;rw [e1,e2] at I;have Q:(Ay zI [0,1] 2).length=z1.length:=rfl;omega
theorem z_run {u:List UInt8} {r:RS} (O:Aa zM zH zI u=some (j0 zI)) (hp:u.take zH.length=zH) (Q:0<n) (J:n<=16) (M:RS.run zM n ⟨[],false,0⟩=r) (E:r.done=true\/(n:Int)<=r.steps):Da zM zH zI u n=(zH++Ay zI r.ch r.steps,r.done,0):=by
 have e:(min (20000 - (j0 zI).steps) (n:Int))=n:=by show min (20000 - 0) (n:Int)=n;omega
 unfold Da;rw [O];simp only;rw [if_neg (by omega),e];have I:loadS zM (j0 zI).ch (j0 zI).steps=⟨[],false,0⟩:=z_start;rw [I];obtain ⟨f,hf⟩:∃f,((n:Int)).toNat=f+1:=⟨n - 1,by omega⟩;rw [hf]
 have G:(min (16 - (RS.mk [] false 0).steps % 16) ((n:Int) - ((RS.mk [] false 0).steps - (j0 zI).steps))).toNat=n:=by
  show (min (16 - 0 % 16) ((n:Int) - (0 - 0))).toNat=n;omega
 have o:=runJ_go (m:=zM) (b:=(j0 zI).steps) (lim:=n) (f:=f) (r:=⟨[],false,0⟩) (r':=r) (sg:=(j0 zI).sg) (by
  rintro (h | h)
  ·cases h
  ·have:(n:Int)<=0 - 0:=h;omega) (by rw [G];exact M)
 rw [o];have D:BK zM (j0 zI).steps n f r (zY (j0 zI).sg r.ch r.steps)=([],r):=Ev (E.imp _root_.id fun h=>by show (n:Int)<=r.steps - 0;omega);rw [D];show (u.take zH.length++(Ay zI r.ch r.steps++[]),r.done,0)=_;rw [hp,List.append_nil]
theorem z_openH:Aa zM zH zI zH=some (j0 zI):=open_head z_good
theorem z_runA:Da zM zH zI zH 2=(zH++z1,false,0):=by
 have h:=z_run (u:=zH) (n:=2) (r:=⟨[0,1],false,2⟩) z_openH FJ (by decide) (by decide) z_run2 (.inr (by decide));rw [show ((2:Nat):Int)=2 from rfl] at h;exact h
theorem z_runB:Da zM zH zI (zH++z1.take (z1.length - 1)) 9=(zH++z2,true,0):=by
 have h:=z_run (n:=9) (r:=⟨[0,1,2],true,3⟩) z_open1 List.take_left (by decide) (by decide) z_run9 (.inl rfl);rw [show ((9:Nat):Int)=9 from rfl] at h;exact h
theorem z_runC:Da zM zH zI zH (-1)=([],false,1):=by
 unfold Da;rw [z_openH];rfl
theorem z_runD:Da zM zH zI zH 0=(zH,false,0):=by
 unfold Da;rw [z_openH];simp only;rw [if_neg (by omega),show loadS zM (j0 zI).ch (j0 zI).steps=⟨[],false,0⟩ from z_start];show (zH.take zH.length++[],false,0)=_;rw [FJ,List.append_nil]
theorem z_at {t:List UInt8} {d:Bool} (o:n<=20000) (h:Da zM zH zI zH n=(zH++t,d,0)):JAt zM zH zI (zH++t) n:=by
 obtain ⟨t',h1,h2⟩:=jat_run z_good (jat_begin zM zH zI) (n:=n) (by omega);rw [h] at h1;injection h1 with h1 _;have h3:=List.append_cancel_left h1;rw [Nat.zero_add] at h2;rw [h3];exact h2
theorem z_atS {r:RS} (h:RS.run zM n ⟨[],false,0⟩=r):AN zM n=r:=by
 unfold AN;rw [z_start];exact h
theorem z_openA:∃x,Aa zM zH zI (zH++z1)=some x/\x.fin=(zH++z1).length/\x.ch=[0,1]/\x.steps=2:=by
 obtain ⟨x,h1,h2,h3,h4⟩:=jat_read z_good (z_at (n:=2) (by omega) z_runA);rw [z_atS z_run2] at h3 h4;exact ⟨x,h1,h2,h3,h4⟩
theorem z_openB:∃x,Aa zM zH zI (zH++z2)=some x/\x.ch=[0,1,2]/\x.steps=3:=by
 have h:=z_run (u:=zH) (n:=9) (r:=⟨[0,1,2],true,3⟩) z_openH FJ (by decide) (by decide) z_run9 (.inl rfl);obtain ⟨x,h1,h2,h3,h4⟩:=jat_read z_good (z_at (n:=9) (by omega) h);rw [z_atS z_run9] at h3 h4;exact ⟨x,h1,h3,h4⟩
theorem z_resB:resF zM zH zI (zH++z2)=([[0,1,2]],.zero,0):=by
 obtain ⟨x,h1,h2,h3⟩:=z_openB;unfold resF;rw [h1];simp only;rw [h2,if_pos (by decide +kernel),show Cm zM [0,1,2]=[[0,1,2]] by decide +kernel]
theorem z_resH:resF zM zH zI zH=([],.zero,53):=by
 unfold resF;rw [z_openH];simp only;rw [show zV zM (j0 zI).ch=false by decide +kernel,if_neg (by simp),show loadS zM (j0 zI).ch (j0 zI).steps=⟨[],false,0⟩ from z_start,if_pos rfl]
theorem zH_pos:9<=zH.length:=by
 unfold zH zx wT;simp [zI_len,BJ];omega
theorem z_open0:Aa zM zH zI []=none:=by
 unfold Aa;rw [if_neg];intro h;have h1:=h.length_le;have h2:=zH_pos;rw [zaH] at h1;omega
theorem z_res0:resF zM zH zI []=([],.zero,4):=by
 unfold resF;rw [z_open0]
theorem Fm (w:World):Calls Tryz.prog 67 #[] w fun e w'=>∃v,e=.returned v/\za w w'/\Bx w' (fun x=>w.heap.size<=x) v zM zN:=by
 have E:∀w,(Instr.makeSlice 29 (.int .i64 3) (.int .i64 3)).run Tryz.prog w=.ok (.slice (some ⟨w.heap.size,0,none⟩) 3 3) (w.alloc (.cells #[.bool false,.bool false,.bool false] 4)):=fun _=>by kernel_rfl
 go_enter Tryz.func67,Tryz.ntmps67
 go_wp2_with fail
 change (fun W=>bodyPost Tryz.prog Tryz.f67 (fun e w'=>∃v,e=Ending.returned v/\za w w'/\Bx w' (fun x=>w.heap.size<=x) v zM zN) Exit.ret _ W) ([_,_,_,_,_,_,_].foldl World.alloc w);refine fin_allocs w _ fun W I o=>?_
 have b0:ze W w.heap.size 32 _:=o 0 _ rfl;have b1:=o 1 _ rfl;have b2:=o 2 _ rfl;have b3:=o 3 _ rfl;have b4:=o 4 _ rfl;have b5:=o 5 _ rfl;have b6:=o 6 _ rfl;clear o E;obtain ⟨y0,y1,y2,y3,y4,y5⟩:=zt b0;generalize M:w.heap.size=H at*;refine za5 (v:=.agg #[.int .i64 3,.int .i64 1,.int .i64 1,.slice (some ⟨H+1+1,0,none⟩) 1 1,.slice (some ⟨H+1+1+1,0,none⟩) 3 3,.slice (some ⟨H+1+1+1+1+1+1,0,none⟩) 1 1]) (by simp [results,Tryz.results67,go_sem,y0,y1,y2,y3,y4,y5]) rfl ⟨_,rfl,I,?_⟩;refine ⟨_,_,_,rfl,⟨[.slice (some ⟨H+1,0,none⟩) 3 3],⟨_,_,rfl,Fy _,Ba.block (cs:=#[.slice (some ⟨H+1,0,none⟩) 3 3]) b2 (by omega) rfl⟩,fun i x D=>?_⟩,⟨_,_,rfl,Fy _,Ba.block (cs:=#[.bool false,.bool false,.bool false]) b3 (by omega) rfl⟩,rfl,[.string ⟨#[97]⟩,.slice (some ⟨H+1+1+1+1,0,none⟩) 1 1,.slice (some ⟨H+1+1+1+1+1,0,none⟩) 1 1],⟨_,_,rfl,Fy _,rfl,fun _=>⟨H+6,0,rfl,by omega,fun j u J=>by rw [Nat.zero_add];exact ze.cell (cs:=#[.string ⟨#[97]⟩,.slice (some ⟨H+1+1+1+1,0,none⟩) 1 1,.slice (some ⟨H+1+1+1+1+1,0,none⟩) 1 1]) b6 (by simpa using J)⟩⟩,fun i x sn D G=>?_⟩
 ·match i,D with
  | 0,D=>
   have:[true,true,true]=x:=by simpa [zM] using D
   subst this;exact ⟨_,rfl,⟨_,_,rfl,Fy _,Ba.block (cs:=#[.bool true,.bool true,.bool true]) b1 (by omega) rfl⟩⟩
 ·match i,D,G with
  | 0,D,G=>
   have e1:(([0],[2]):List Int×List Int)=x:=by simpa [zM] using D
   have e2:(⟨#[97]⟩:ByteArray)=sn:=by simpa [zN] using G
   subst e1 e2;exact ⟨_,_,rfl,rfl,rfl,⟨_,_,rfl,Fy _,Ba.block (cs:=#[.int .i64 0]) b4 (by omega) rfl⟩,⟨_,_,rfl,Fy _,Ba.block (cs:=#[.int .i64 2]) b5 (by omega) rfl⟩⟩
end
section
open Go.RowKit Go.Shelf
attribute [local go_sem ↓] Go.wp_at_zero Go.wp_at_succ
attribute [local go_sem] Oper.semAt_some
theorem zreads_calls {st en:Int} (w:World) (hv:zv w) (O:zg w ok vl l) (M:l.length<=1000) (a3:s.length<=40000000) (Q:∃x,Aa zM zH zI s=some x/\x.steps=st/\(x.fin:Int)=en/\x.ch=l):
  Calls Tryz.prog 70 #[.string ⟨s.toArray⟩,.int .i64 st,.int .i64 en,vl] w fun e w'=>e=.returned (.bool true)/\za w w':=by
 have HV:=zh hv;have a1:=zh O;have HX:=zh Q;have D:=zh M;obtain ⟨A,c,rfl,-,-⟩:=O;clear hv Q M
 go_enter Tryz.func70,Tryz.ntmps70
 go_wp2_with fail
 refine (Fm w).mono ?_;rintro e w1 ⟨v1,rfl,o,J⟩
 have V:Hid (Calls Tryz.prog 33 #[v1,.string ⟨s.toArray⟩] w1 (ReadPost w1 zM zI s)):=by
  have h:=jRead_calls (s:=s) w1 (HV.out.ext o) J z_small z_lens z_chk a3;rw [z_desc] at h;exact h
 obtain ⟨f,u,t,rfl,⟨_,⟨Af,cf,rfl,-,-⟩,-⟩,⟨Au,cu,rfl,-,-⟩,⟨-,_,⟨At,ct,rfl,-,-⟩,-⟩⟩:=J;have U:=zh o;clear o
 go_wp2_with fail
 refine V.out.mono ?_;rintro e w2 ⟨vc,x,er,rfl,G,I,-,h2⟩;obtain ⟨y,hy,rfl,rfl,rfl⟩:=HX.out;obtain ⟨rfl,rfl⟩:=h2 y hy;have E:Hid (za w w2):=U.out.trans G
 have a0:Hid (∀W,za w2 W->Calls Tryz.prog 15 #[vc,.slice A x.ch.length c] W fun e w'=>e=.returned (.bool true)/\za W w'):=fun W h=>by
  have h1:=EN W (I.below h) (a1.out.below (E.out.trans h)) (by have:=D.out;omega) (by have:=D.out;omega);rw [FB rfl] at h1;exact h1.mono fun e w' h=>⟨h.1,h.2.below _⟩
 obtain ⟨Ac,cc,rfl,-,-⟩:=I;have Q:za w2 w2:=za.refl w2;clear G h2 hy
 go_wp2_with fail
 refine (a0.out _ Q).mono ?_;rintro e w3 ⟨rfl,a2⟩
 go_wp2_with fail
 go_ret;exact ⟨rfl,E.out.trans a2⟩
structure ZP (M:MZ) (ns:List ByteArray) (I H C1 C2 S1 S2 T1 T0 U:List UInt8):Prop where
 m:zM=M/\zN=ns
 id:BB (zr M ns)=I/\zx I=H/\BB zD=I/\zI=I/\zH=H
 ok:AV M=0/\Lens M/\CP M ns
 il:I.length=8
 hl:H.length<=10000/\T1.length<=10000/\U.length<=10000/\0<T1.length
 h:H=[53,58,114,111,117,116,101,56,58]++I
 c1:C1=Dl I [91,48,59,49,59,93,50,59]
 c2:C2=Dl I [91,48,59,49,59,50,59,93,51,59]
 s1:S1=H++[56,58,91,48,59,49,59,93,50,59,56,58]/\T1=S1++C1
 s2:S2=H++[49,48,58,91,48,59,49,59,50,59,93,51,59,56,58]/\U=S2++C2
 t0:T0=T1.take (T1.length - 1)
 rA:Da M H I H 2=(T1,false,0)
 rB:Da M H I T0 9=(U,true,0)
 rC:Da M H I H (-1)=([],false,1)
 rD:Da M H I H 0=(H,false,0)
 oA:∃x,Aa M H I T1=some x/\x.fin=T1.length/\x.ch=[0,1]/\x.steps=2
 o0:Aa M H I T0=some (j0 I)
 oH:Aa M H I H=some (j0 I)
 oN:Aa M H I []=none
 oB:∃x,Aa M H I U=some x/\x.ch=[0,1,2]/\x.steps=3
 qB:resF M H I U=([[0,1,2]],.zero,0)
 qH:resF M H I H=([],.zero,53)
 qN:resF M H I []=([],.zero,4)
 cB:zV M [0,1,2]=true
 dH:(loadS M [] 0).done=false
theorem z1_eq:z1=[56,58,91,48,59,49,59,93,50,59,56,58]++Dl zI [91,48,59,49,59,93,50,59]:=by
 have D:BP [0,1] 2=[91,48,59,49,59,93,50,59]:=by decide +kernel
 have G:(zY zI [0,1] 2).length=8:=By _ _ _;have E:Lib.itoa ((8:Nat):Int)=[56]:=by decide +kernel
 have I:wT (zY zI [0,1] 2)=[56,58]++zY zI [0,1] 2:=by
  unfold wT;rw [G,E];rfl
 have o:wT (BP [0,1] 2)=[56,58,91,48,59,49,59,93,50,59]:=by rw [D];decide +kernel
 show wT (BP [0,1] 2)++wT (zY zI [0,1] 2)=_;rw [o,I];unfold zY;rw [D];rfl
theorem z2_eq:z2=[49,48,58,91,48,59,49,59,50,59,93,51,59,56,58]++Dl zI [91,48,59,49,59,50,59,93,51,59]:=by
 have D:BP [0,1,2] 3=[91,48,59,49,59,50,59,93,51,59]:=by decide +kernel
 have G:(zY zI [0,1,2] 3).length=8:=By _ _ _;have E:Lib.itoa ((8:Nat):Int)=[56]:=by decide +kernel
 have I:wT (zY zI [0,1,2] 3)=[56,58]++zY zI [0,1,2] 3:=by
  unfold wT;rw [G,E];rfl
 have o:wT (BP [0,1,2] 3)=[49,48,58,91,48,59,49,59,50,59,93,51,59]:=by rw [D];decide +kernel
 show wT (BP [0,1,2] 3)++wT (zY zI [0,1,2] 3)=_;rw [o,I];unfold zY;rw [D];rfl
theorem zH_eq:zH=[53,58,114,111,117,116,101,56,58]++zI:=by
 have o:Lib.itoa ((8:Nat):Int)=[56]:=by decide +kernel
 have D:wT BJ=[53,58,114,111,117,116,101]:=by decide +kernel
 have E:wT zI=[56,58]++zI:=by
  unfold wT;rw [zI_len,o];rfl
 show wT BJ++wT zI=_;rw [D,E];rfl
theorem chain_len (a b:List UInt8):(Dl a b).length=8:=rfl
theorem z_pack:∃M ns I H C1 C2 S1 S2 T1 T0 U,ZP M ns I H C1 C2 S1 S2 T1 T0 U:=by
 have o:zH.length=17:=by rw [zH_eq,FG,zI_len];rfl
 have h1:z1.length=20:=by rw [z1_eq,FG,chain_len];rfl
 have h2:z2.length=23:=by rw [z2_eq,FG,chain_len];rfl
 have ht:zH++z1.take (z1.length - 1)=(zH++z1).take ((zH++z1).length - 1):=by
  rw [FG,List.take_append,List.take_of_length_le (show zH.length<=zH.length+z1.length - 1 by omega),show zH.length+z1.length - 1 - zH.length=z1.length - 1 by omega]
 refine ⟨zM,zN,zI,zH,Dl zI [91,48,59,49,59,93,50,59],Dl zI [91,48,59,49,59,50,59,93,51,59],zH++[56,58,91,48,59,49,59,93,50,59,56,58],zH++[49,48,58,91,48,59,49,59,50,59,93,51,59,56,58],zH++z1,zH++z1.take (z1.length - 1),zH++z2,⟨rfl,rfl⟩,⟨by rw [z_desc];rfl,rfl,rfl,rfl,rfl⟩,⟨z_chk,z_lens,z_small⟩,zI_len,?_,zH_eq,rfl,rfl,⟨rfl,?_⟩,⟨rfl,?_⟩,ht,z_runA,z_runB,z_runC,z_runD,z_openA,z_open1,z_openH,z_open0,z_openB,z_resB,z_resH,z_res0,by decide +kernel,by rw [z_start]⟩
 ·simp only [FG];omega
 ·rw [z1_eq,List.append_assoc]
 ·rw [z2_eq,List.append_assoc]
theorem of_r (a:List UInt8) (w:World) (o:a.length<=1000000000):Calls Tryz.prog 68 #[.string ⟨a.toArray⟩] w fun e w'=>e=.returned (.string ⟨(BB a).toArray⟩)/\za w w':=
 rOf_calls ⟨a.toArray⟩ w (by have:(ByteArray.mk a.toArray).size=a.length:=(by simp [ByteArray.size]);omega)
theorem chain_r (a b:List UInt8) (w:World) (o:a.length<=1000000000) (D:b.length<=1000000000):Calls Tryz.prog 69 #[.string ⟨a.toArray⟩,.string ⟨b.toArray⟩] w fun e w'=>e=.returned (.string ⟨(Dl a b).toArray⟩)/\za w w':=
 rChain_calls ⟨a.toArray⟩ ⟨b.toArray⟩ w (by simpa [ByteArray.size] using o) (by simpa [ByteArray.size] using D)
theorem zsanity_calls (w:World) (hv:zv w):Calls Tryz.prog 25 #[] w fun e w'=>e=.returned (.bool true)/\za w w':=by
 obtain ⟨M,ns,I,H,C1,C2,S1,S2,T1,T0,U,hz⟩:=z_pack;have D:=zh hz;have HV:=zh hv;clear hz hv
 go_enter Tryz.func25,Tryz.ntmps25
 go_wp2_with fail
 refine (Fm w).mono ?_;rintro e w1 ⟨v1,rfl,f2,d7⟩;rw [D.out.m.1,D.out.m.2] at d7;have e8:=zh d7;obtain ⟨f,u,t,rfl,⟨_,⟨Af,cf,rfl,-,-⟩,-⟩,⟨Au,cu,rfl,-,-⟩,⟨-,_,⟨At,ct,rfl,-,-⟩,-⟩⟩:=d7;go_upto_region 2 with fail;obtain ⟨a4,r0,r1,r2,r3,r4,r5⟩:=CO w1 M Af cf Au cu At ct;simp only [Fr] at a4 r0 r1 r2 r3 r4 r5;generalize w1.alloc _=w2 at a4 r0 r1 r2 r3 r4 r5⊢;generalize w1.heap.size=gm at r0 r1 r2 r3 r4 r5⊢;have d5:=zh (e8.out.below a4);have f1:Hid (za w w2):=f2.trans a4;have b5:Hid (zv w2):=HV.out.ext f1.out;clear f2 a4 e8
 have e9:Hid (Calls Tryz.prog 68 #[.string ⟨#[51,59,49,59,49,59,49,59,49,58,97,91,48,59,93,91,50,59,93,49,59,51,58,49,49,49,51,58,48,48,48]⟩] w2 fun e w'=>e=.returned (.string ⟨I.toArray⟩)/\za w2 w'):=by
  have h:=of_r zD w2 (by decide);rw [D.out.id.2.2.1] at h;exact h
 have e6:Hid (∀W,za w2 W->Calls Tryz.prog 28 #[.agg #[.int .i64 M.w,.int .i64 M.h,.int .i64 M.l,.slice Af M.free.length cf,.slice Au M.up.length cu,.slice At M.tasks.length ct]] W fun e w'=>e=.returned (.tuple #[.string ⟨H.toArray⟩,.int .i64 0])/\za W w'):=fun W h=>by
  have h1:=jBegin_calls W (b5.out.ext h) (d5.out.below h) D.out.ok.2.2 D.out.ok.2.1 D.out.ok.1;rw [D.out.id.1,D.out.id.2.1] at h1;exact h1
 have b7:Hid (∀W,Calls Tryz.prog 69 #[.string ⟨I.toArray⟩,.string ⟨#[91,48,59,49,59,93,50,59]⟩] W fun e w'=>e=.returned (.string ⟨C1.toArray⟩)/\za W w'):=fun W=>by
  rw [D.out.c1];exact chain_r I [91,48,59,49,59,93,50,59] W (by have:=D.out.il;omega) (by decide)
 have b8:Hid (∀W,Calls Tryz.prog 69 #[.string ⟨I.toArray⟩,.string ⟨#[91,48,59,49,59,50,59,93,51,59]⟩] W fun e w'=>e=.returned (.string ⟨C2.toArray⟩)/\za W w'):=fun W=>by
  rw [D.out.c2];exact chain_r I [91,48,59,49,59,50,59,93,51,59] W (by have:=D.out.il;omega) (by decide)
 have f0:Hid (∀S x,S=H\/S=T0\/S=U\/S=[]->Aa M H I S=some x->x.steps<=20000):=fun S x hS E=>by
  rcases hS with rfl | rfl | rfl | rfl
  ·rw [D.out.oH] at E;injection E with E;rw [<-E];exact (show (0:Int)<=20000 by decide)
  ·rw [D.out.o0] at E;injection E with E;rw [<-E];exact (show (0:Int)<=20000 by decide)
  ·obtain ⟨y,h1,-,h2⟩:=D.out.oB;rw [h1] at E;injection E with E;rw [<-E,h2];decide
  ·rw [D.out.oN] at E;cases E
 have J:Hid (∀(S T:List UInt8) (n:Int) (d:Bool) (e0:Int),(S=H\/S=T0\/S=U\/S=[])->S.length<=20000->-1000<=n/\n<=1000->Da M H I S n=(T,d,e0)->∀W,za w2 W->Calls Tryz.prog 32 #[.agg #[.int .i64 M.w,.int .i64 M.h,.int .i64 M.l,.slice Af M.free.length cf,.slice Au M.up.length cu,.slice At M.tasks.length ct],.string ⟨S.toArray⟩,.int .i64 n] W fun e w'=>e=.returned (.tuple #[.string ⟨T.toArray⟩,.bool d,.int .i64 e0])/\za W w'):=fun S T n d e0 hS g0 hn hr W h=>by
  have h1:=jRun_calls (s:=S) n W (b5.out.ext h) (d5.out.below h) D.out.ok.2.2 D.out.ok.2.1 D.out.ok.1 (by omega) hn (by rw [D.out.id.1,D.out.id.2.1];exact fun x E=>f0.out S x hS E);unfold JRunPost at h1;rw [D.out.id.1,D.out.id.2.1,hr] at h1;exact h1
 have a0:Hid (∀(S:List UInt8),(S=H\/S=U\/S=[])->S.length<=20000->∀W,za w2 W->Calls Tryz.prog 71 #[.agg #[.int .i64 M.w,.int .i64 M.h,.int .i64 M.l,.slice Af M.free.length cf,.slice Au M.up.length cu,.slice At M.tasks.length ct],.string ⟨S.toArray⟩] W (ResPost W M I S)):=fun S hS g0 W h=>by
  have h1:=jResult_calls (s:=S) W (b5.out.ext h) (d5.out.below h) D.out.ok.2.2 D.out.ok.2.1 D.out.ok.1 (by omega) (by rw [D.out.id.1,D.out.id.2.1];exact fun x E=>f0.out S x (hS.elim .inl fun h=>h.elim (fun h=>.inr (.inr (.inl h))) fun h=>.inr (.inr (.inr h))) E) (by
   rw [D.out.id.1,D.out.id.2.1];intro x E g5 g6
   exfalso
   rcases hS with rfl | rfl | rfl
   ·rw [D.out.oH] at E;injection E with E;rw [<-E] at g6;exact absurd (show (loadS M [] 0).done=true from g6) (by rw [D.out.dH];simp)
   ·obtain ⟨y,h1,h2,-⟩:=D.out.oB;rw [h1] at E;injection E with E;rw [<-E,h2,D.out.cB] at g5;cases g5
   ·rw [D.out.oN] at E;cases E)
  rw [D.out.id.1] at h1;exact h1
 have c0:Hid (∀(S:List UInt8) (ok:Nat->Prop) (vl:Value) (l:List Int) (st en:Int),S.length<=20000->l.length<=1000->(∃x,Aa M H I S=some x/\x.steps=st/\(x.fin:Int)=en/\x.ch=l)->∀W,za w2 W->zg W ok vl l->Calls Tryz.prog 70 #[.string ⟨S.toArray⟩,.int .i64 st,.int .i64 en,vl] W fun e w'=>e=.returned (.bool true)/\za W w'):=fun S ok vl l st en g0 h8 E W h i1=>by
  refine zreads_calls W (b5.out.ext h) i1 h8 (by omega) ?_;rw [D.out.m.1,D.out.id.2.2.2.1,D.out.id.2.2.2.2];exact E
 have j4:∀w,(Op.stringOp .add ⟨#[53,58,114,111,117,116,101,56,58]⟩ ⟨I.toArray⟩).run Tryz.prog w=.ok (.string ⟨H.toArray⟩) w:=fun w=>by rw [D.out.h];exact zJ (x:=[53,58,114,111,117,116,101,56,58]) (by have:=D.out.il;simp;omega)
 have j5:∀w,(Op.stringOp .add ⟨H.toArray⟩ ⟨#[56,58,91,48,59,49,59,93,50,59,56,58]⟩).run Tryz.prog w=.ok (.string ⟨S1.toArray⟩) w:=fun w=>by rw [D.out.s1.1];exact zJ (y:=[56,58,91,48,59,49,59,93,50,59,56,58]) (by have:=D.out.hl;simp;omega)
 have h9:S1.length<=20000:=by rw [D.out.s1.1];have:=D.out.hl;simp;omega
 have i0:S2.length<=20000:=by rw [D.out.s2.1];have:=D.out.hl;simp;omega
 have g3:C1.length=8:=by rw [D.out.c1];rfl
 have g4:C2.length=8:=by rw [D.out.c2];rfl
 have j6:∀w,(Op.stringOp .add ⟨S1.toArray⟩ ⟨C1.toArray⟩).run Tryz.prog w=.ok (.string ⟨T1.toArray⟩) w:=fun w=>by rw [D.out.s1.2];exact zJ (by omega)
 have j7:∀w,(Op.stringOp .add ⟨H.toArray⟩ ⟨#[49,48,58,91,48,59,49,59,50,59,93,51,59,56,58]⟩).run Tryz.prog w=.ok (.string ⟨S2.toArray⟩) w:=fun w=>by rw [D.out.s2.1];exact zJ (y:=[49,48,58,91,48,59,49,59,50,59,93,51,59,56,58]) (by have:=D.out.hl;simp;omega)
 have j8:∀w,(Op.stringOp .add ⟨S2.toArray⟩ ⟨C2.toArray⟩).run Tryz.prog w=.ok (.string ⟨U.toArray⟩) w:=fun w=>by rw [D.out.s2.2];exact zJ (by omega)
 have G:Hid (H.length<=10000/\T1.length<=10000/\U.length<=10000/\0<T1.length):=D.out.hl;clear h9 i0 g3 g4;have E:za w2 w2:=za.refl w2
 go_wp2_with fail
 refine e9.out.mono ?_;rintro e w3 ⟨rfl,f4⟩;have d8:za w2 w3:=E.trans f4;clear E f4 e9
 go_wp2_with fail
 refine (e6.out _ d8).mono ?_;rintro e w4 ⟨rfl,f5⟩;have g7:za w2 w4:=d8.trans f5;clear d8 f5 e6
 go_wp2_with fail
 refine (b7.out _).mono ?_;rintro e w5 ⟨rfl,f6⟩;have g8:za w2 w5:=g7.trans f6;clear g7 f6 b7
 go_wp2_with fail
 refine (b8.out _).mono ?_;rintro e w6 ⟨rfl,f7⟩;have d9:za w2 w6:=g8.trans f7;clear g8 f7 b8
 go_wp2_with fail
 refine (J.out H T1 2 false 0 (.inl rfl) (by have:=G.out;omega) (by decide) D.out.rA _ d9).mono ?_;rintro e w7 ⟨rfl,f8⟩;have e2:za w2 w7:=d9.trans f8;clear d9 f8;have d6:za w7 (w7.alloc (.cells #[.int .i64 0,.int .i64 1] 3)):=(za.refl w7).alloc _;have b9:Hid (zg (w7.alloc (.cells #[.int .i64 0,.int .i64 1] 3)) (fun _=>True) (.slice (some ⟨w7.heap.size,0,none⟩) 2 2) [0,1]):=⟨_,_,rfl,Fy _,Ba.block (cs:=#[.int .i64 0,.int .i64 1]) (ze.new w7 _ _ rfl) trivial rfl⟩
 go_wp2_with fail
 refine (c0.out T1 _ _ [0,1] 2 T1.length (by have:=G.out;omega) (by decide) (by obtain ⟨x,h1,h2,h3,h4⟩:=D.out.oA;exact ⟨x,h1,h4,by rw [h2],h3⟩) _ (e2.trans d6) b9.out).mono ?_;rintro e w8 ⟨rfl,a5⟩;have e3:za w2 w8:=(e2.trans d6).trans a5;have k7:0<T1.length:=G.out.2.2.2;have k8:T1.length<=10000:=G.out.2.1;obtain ⟨k1,h7⟩:∃k,T1.length=k+1:=⟨T1.length - 1,by omega⟩;have hw:IntKind.i64.wrap ((T1.length:Int) - 1)=(k1:Int):=by rw [zag];omega
 have j9:k1<=T1.length:=by omega
 have e1:ByteArray.extract ⟨T1.toArray⟩ 0 k1=⟨T0.toArray⟩:=by rw [D.out.t0,show T1.length - 1=k1 by omega];exact Cl T1 k1
 clear e2 d6 a5 b9 h7
 go_wp2_with fail
 refine (c0.out T0 (fun _=>True) (.slice none 0 0) [] 0 H.length (by have h1:=G.out;rw [D.out.t0,za3];omega) (by decide) ⟨_,D.out.o0,rfl,by rw [<-D.out.id.2.1];rfl,rfl⟩ _ e3 (zg.nil _ _)).mono ?_;rintro e w9 ⟨rfl,a5⟩;have g9:za w2 w9:=e3.trans a5;clear e3 a5;go_upto_region 11 with fail;refine zab (S:=(fun W=>za w2 W)) zG (g9.drew) fun zH=>?_;generalize w9.drew=wd at zH⊢;refine zi 0 zH ?_;refine zi 1 zH ?_;simp only [zc,Fv];refine zi 2 zH ?_;refine zi 3 zH ?_;simp only [zc,Fv];refine zi 4 zH ?_;refine zi 5 zH ?_;simp only [zc,Fv];refine BO 6 fun K hK=>?_;go_simp;go_at_call 32;refine (J.out T0 U 9 true 0 (.inr (.inl rfl)) (by have h1:=G.out;rw [D.out.t0,za3];omega) (by decide) D.out.rB _ zH).mono ?_;rintro e w10 ⟨rfl,f3⟩;go_simp;refine zaJ hK (zH.trans f3) fun zH=>?_;clear hK K;try simp only [zc,Fv]
 refine zi 7 zH ?_;refine zi 8 zH ?_;simp only [zc,Fv];refine zi 9 zH ?_;refine zi 10 zH ?_;simp only [zc,Fv];refine zi 11 zH ?_;refine zi 12 zH ?_;simp only [zc,Fv];refine zi 13 zH ?_;simp only [zc,Fv];refine zao (by kernel_rfl) ?_ _;have b0:=zH;clear zH g9
 go_wp2_with fail
 refine (a0.out U (.inr (.inl rfl)) (by have:=G.out;omega) _ (b0)).mono ?_;rintro e w11 ⟨vp11,vr11,rfl,c6,O,a6⟩;rw [D.out.id.2.1,D.out.qB] at O a6⊢;obtain ⟨A11,c11,B11,d11,rfl,-⟩:=a6.form;obtain ⟨_,⟨Ap11,cp11,rfl,-,-⟩,-⟩:=_root_.id O;have e7:=zh O;have b1:za w2 w11:=(b0).trans c6;have i2:∀o,za w2 (w11.alloc o):=fun o=>b1.alloc o
 clear c6 a6 O;clear b0
 go_wp2_with fail
 refine (a0.out H (.inl rfl) (by have:=G.out;omega) _ (b1.alloc _)).mono ?_;rintro e w12 ⟨vp12,vr12,rfl,a1,Q,a7⟩;have g1:=a1;rw [D.out.id.2.1,D.out.qH] at Q a7⊢;obtain ⟨A12,c12,B12,d12,rfl,-⟩:=a7.form;obtain ⟨_,⟨Ap12,cp12,rfl,-,-⟩,-⟩:=_root_.id Q;have i5:=zh Q;have b2:za w2 w12:=(b1.alloc _).trans a1;have i3:∀o,za w2 (w12.alloc o):=fun o=>b2.alloc o
 clear a1 a7 Q
 go_wp2_with fail
 refine (a0.out [] (.inr (.inr rfl)) (by have:=G.out;simp) _ (b2.alloc _)).mono ?_;rintro e w13 ⟨vp13,vr13,rfl,a2,V,a8⟩;have a9:=a2;rw [D.out.id.2.1,D.out.qN] at V a8⊢;obtain ⟨A13,c13,B13,d13,rfl,-⟩:=a8.form;obtain ⟨_,⟨Ap13,cp13,rfl,-,-⟩,-⟩:=_root_.id V;have i6:=zh V;have c8:za w2 w13:=(b2.alloc _).trans a2;have i4:∀o,za w2 (w13.alloc o):=fun o=>c8.alloc o
 clear a2 a8 V;have a9:za w11 w13:=(((za.refl w11).alloc _).trans g1).trans (((za.refl w12).alloc _).trans a9);have b3:za w2 (w13.alloc (.cells #[.int .i64 PT.zero.task,.slice A13 PT.zero.side.length c13,.slice B13 PT.zero.kids.length d13] 41)):=c8.alloc _
 go_wp2_with fail
 refine (J.out H [] (-1) false 1 (.inl rfl) (by have:=G.out;omega) (by decide) D.out.rC _ b3).mono ?_;rintro e w15 ⟨rfl,c7⟩;have b4:za w2 w15:=b3.trans c7
 go_wp2_with fail
 refine (J.out H H 0 false 0 (.inl rfl) (by have:=G.out;omega) (by decide) D.out.rD _ b4).mono ?_;rintro e w16 ⟨rfl,a3⟩;have c9:za w2 w16:=b4.trans a3;have b6:Hid (za w11 w16):=(((a9.alloc _).trans c7).trans a3);have e4:za w16 ((w16.alloc (.cells #[.int .i64 0,.int .i64 1,.int .i64 2] 3)).alloc (.cells #[.slice (some ⟨w16.heap.size,0,none⟩) 3 3] 23)):=((za.refl w16).alloc _).alloc _
 have f9:zU ((w16.alloc (.cells #[.int .i64 0,.int .i64 1,.int .i64 2] 3)).alloc (.cells #[.slice (some ⟨w16.heap.size,0,none⟩) 3 3] 23)) (fun _=>True) (.slice (some ⟨w16.heap.size+1,0,none⟩) 1 1) [[0,1,2]]:=
  ⟨[.slice (some ⟨w16.heap.size,0,none⟩) 3 3],⟨_,_,rfl,Fy _,Ba.block (cs:=#[.slice (some ⟨w16.heap.size,0,none⟩) 3 3]) (ze.new (w16.alloc (.cells #[.int .i64 0,.int .i64 1,.int .i64 2] 3)) _ _ (by simp)) trivial rfl⟩,fun i x E=>by
   match i,E with
   | 0,E=>
    have:[0,1,2]=x:=by simpa using E
    subst this;exact ⟨_,rfl,⟨_,_,rfl,Fy _,Ba.block (cs:=#[.int .i64 0,.int .i64 1,.int .i64 2]) ((ze.new w16 #[.int .i64 0,.int .i64 1,.int .i64 2] 3 rfl).alloc _) trivial rfl⟩⟩⟩
 have h5:=zh (samePaths_t _ rfl (e7.out.below (b6.out.trans e4)) f9 (by simp) (fun x E=>by simp at E;rw [E];simp));have h6:Hid (za w2 ((w16.alloc (.cells #[.int .i64 0,.int .i64 1,.int .i64 2] 3)).alloc (.cells #[.slice (some ⟨w16.heap.size,0,none⟩) 3 3] 23))):=c9.trans e4;clear b3 b4 c9 a3 f9 e4
 go_wp2_with fail
 refine h5.out.mono ?_;rintro e w17 ⟨rfl,hD⟩
 go_wp2_with fail
 go_ret;exact ⟨rfl,(f1.out.trans h6.out).trans (hD.below _)⟩
theorem runJ_len {m:MZ} (g:zZ m) {b lim:Int} (M:b+lim<=20000):∀(f:Nat) (r:RS) (sg:List UInt8),CZ m r->sg.length<=1000->r.steps<=20000->(BK m b lim f r sg).1.length<=7000*f
 | 0,r,sg,_,_,_=>by simp [BK]
 | f+1,r,sg,U,V,ht=>by
  by_cases h:r.done=true\/lim<=r.steps - b
  ·rw [Ev h];simp
  ·obtain ⟨r',o⟩:∃r',RS.run m (min (16 - r.steps % 16) (lim - (r.steps - b))).toNat r=r':=⟨_,rfl⟩;rw [runJ_go h o]
   have O:r.steps - b<lim:=by
    rcases Int.lt_or_le (r.steps - b) lim with q | q
    ·exact q
    ·exact absurd (.inr q) h
   have E:=(CL m (min (16 - r.steps % 16) (lim - (r.steps - b))).toNat r).2.1;rw [o] at E;have D:CZ m r':=by rw [<-o];exact U.run _
   have Q:=Int.emod_lt_of_pos r.steps (show (0:Int)<16 by decide)
   have I:r'.steps<=20000:=by
    generalize r.steps % 16=q at E Q;obtain ⟨kN,G⟩:∃k:Nat,k=(min (16 - q) (lim - (r.steps - b))).toNat:=⟨_,rfl⟩;rw [<-G] at E;have h1:(kN:Int)<=lim - (r.steps - b):=by omega
    omega
   have J:=D.st;obtain ⟨i1,i2⟩:=run_i64 g D;have h1:=recB_le (sg:=sg) (ch:=r'.ch) (st:=r'.steps) V i1 ⟨by omega,by omega⟩ i2;have h2:=runJ_len g M f r' (zY sg r'.ch r'.steps) D (by rw [By];omega) I;show (Ay sg r'.ch r'.steps++_).length<=_;rw [FG];omega
def CutsV (w:World) (v:Value) (l:List (Nat×Nat)):Prop:=
 ∃A c,v=.slice A l.length c/\∀(k:Nat) (h:k<l.length),∃b off,A=some ⟨b,off,none⟩/\w.cell? ⟨b,off+k*2,none⟩=some (.int .u8 (l[k].1:Nat))/\w.cell? ⟨b,off+k*2+1,none⟩=some (.int .u16 (l[k].2:Nat))/\l[k].1<=255/\l[k].2<=65535
theorem CutsV.ext {w:World} {v:Value} {l:List (Nat×Nat)} (h:CutsV w v l) (o:za w w'):CutsV w' v l:=by
 obtain ⟨A,c,e,h⟩:=h;refine ⟨A,c,e,fun k D=>?_⟩;obtain ⟨b,off,h1,h2,h3,h4⟩:=h k D;exact ⟨b,off,h1,o.cell h2,o.cell h3,h4⟩
theorem resF_b (g:zZ m) (G:Lens m) {h:List UInt8} {x:JS} (J:Aa m h id s=some x) (o:loadE m x.ch x.steps=0):(resF m h id s).1.length<=1000/\(∀p∈(resF m h id s).1,p.length<=1000)/\(resF m h id s).2.1.Lens/\(resF m h id s).2.1.size<=3000:=by
 have I:=(BZ o).2.ch;have hf:=found_len g G (show zw m x.ch from I)
 have E:PT.zero.Lens:=by
  unfold PT.zero PT.Lens PT.LensL;exact ⟨by simp,by simp,True.intro⟩
 have D:PT.zero.size<=3000:=by decide
 unfold resF;rw [J];simp only
 split
 ·exact ⟨hf.1,hf.2,E,D⟩
 ·split
  ·exact ⟨by simp,by simp,E,D⟩
  ·split
   ·exact ⟨by simp,by simp,E,D⟩
   ·exact ⟨by simp,by simp,makeP_lens G,makeP_size⟩
def ResR (W:World) (R:List (List Int)×PT×Int) (e:Ending) (w':World):Prop:=
 ∃Ap cp As cs Ak ck,e=.returned (.tuple #[.slice Ap R.1.length cp,.agg #[.int .i64 R.2.1.task,.slice As R.2.1.side.length cs,.slice Ak R.2.1.kids.length ck],.int .i64 R.2.2])/\za W w'/\zU w' (fun _=>True) (.slice Ap R.1.length cp) R.1/\Ce w' (fun _=>True) (.agg #[.int .i64 R.2.1.task,.slice As R.2.1.side.length cs,.slice Ak R.2.1.kids.length ck]) R.2.1
theorem ResPost.r {W:World} {R:List (List Int)×PT×Int} (h:ResPost W m id s e w') (E:R=resF m (zx id) id s):ResR W R e w':=by
 obtain ⟨vp,vr,rfl,D,hI,o⟩:=h;rw [<-E] at hI o⊢;obtain ⟨As,cs,Ak,ck,rfl,-⟩:=o.form;obtain ⟨_,⟨Ap,cp,rfl,-,-⟩,-⟩:=_root_.id hI;exact ⟨_,_,_,_,_,_,rfl,D,hI.weaken fun _ _=>trivial,o.wk fun _ _ _=>trivial⟩
theorem opT_len (hid:id.length=8):(opT m id s).1.ch.length<=s.length:=by
 unfold opT
 split
 ·rename_i o
  cases D:Aa m (zx id) id s with
  | none=>simp
  | some x=>exact (open_b o hid D).1.cl
 ·simp
theorem runT_len {n:Int} (hid:id.length=8) (M:n<=1000):(runT m id s n).1.length<=s.length+7000*n.toNat:=by
 unfold runT
 split
 ·rename_i D
  unfold Da
  cases G:Aa m (zx id) id s with
  | none=>simp
  | some x=>
   simp only
   split
   ·simp
   ·obtain ⟨h1,h2,h3⟩:=open_b D hid G;obtain ⟨lim,o⟩:∃l,l=min (20000 - x.steps) n:=⟨_,rfl⟩;rw [<-o]
    have I:(BK m x.steps lim lim.toNat (loadS m x.ch x.steps) x.sg).1.length<=7000*lim.toNat:=by
     by_cases h0:x.steps<=20000
     ·exact runJ_len (zZ.of D) (by omega) lim.toNat (loadS m x.ch x.steps) x.sg (BZ h2).2 (by rw [h1.sg];omega) h0
     ·have:lim.toNat=0:=by omega
      rw [this];simp [BK]
    show (s.take x.fin++_).length<=_;rw [FG,za3];have E:lim.toNat<=n.toNat:=by omega
    have J:=Nat.mul_le_mul_left 7000 E;omega
 ·simp
theorem runF_pre {n:Int} (hid:id.length=8) (o:0<=n) (hp:zx id <+: s):zx id <+: (Da m (zx id) id s n).1:=by
 unfold Da Aa;rw [if_pos hp];simp only;rw [if_neg (by omega)];have h1:=(endJ_mono (m:=m) (s:=s) ⟨[],0,(zx id).length,id⟩).1
 have h2:zx id <+: s.take (endJ m s ⟨[],0,(zx id).length,id⟩).fin:=by
  obtain ⟨r,rfl⟩:=hp;have h1:(zx id).length<=(endJ m (zx id++r) ⟨[],0,(zx id).length,id⟩).fin:=h1;rw [List.take_append,List.take_of_length_le h1];exact List.prefix_append ..
 exact h2.trans (List.prefix_append ..)
theorem resT_b (I:Lens m) (hid:id.length=8):(resT m id s).1.length<=1000/\(∀p∈(resT m id s).1,p.length<=1000)/\(resT m id s).2.1.Lens/\(resT m id s).2.1.size<=3000:=by
 have G:PT.zero.Lens:=by
  unfold PT.zero PT.Lens PT.LensL;exact ⟨by simp,by simp,True.intro⟩
 have E:PT.zero.size<=3000:=by decide
 unfold resT
 split
 ·rename_i D
  cases o:Aa m (zx id) id s with
  | none=>
   unfold resF;rw [o];exact ⟨by simp,by simp,G,E⟩
  | some x=>exact resF_b (zZ.of D) I o (open_b D hid o).2.1
 ·exact ⟨by simp,by simp,G,E⟩
theorem ResX.r {W:World} {R:List (List Int)×PT×Int} (h:ResX W R e w'):ResR W R e w':=by
 obtain ⟨vp,vr,rfl,D,hI,o⟩:=h;obtain ⟨As,cs,Ak,ck,rfl,-⟩:=o.form;obtain ⟨_,⟨Ap,cp,rfl,-,-⟩,-⟩:=_root_.id hI;exact ⟨_,_,_,_,_,_,rfl,D,hI.weaken fun _ _=>trivial,o.wk fun _ _ _=>trivial⟩
theorem zg.anyL {w:World} {v:Value} (h:zg w ok v l):zg w (fun _=>True) v l:=h.weaken fun _ _=>trivial
theorem b42 {k:Nat} (h:k<=6):1000+420000*k<=5000000/\1000+420000*(k+1)<=5000000:=by omega
theorem Fp {v:Value} {bs:List (Nat×Nat)} (w:World) (h:JP w ok v m ns) (hc:AV m=0) (hb:CutsV w vl bs) (g3:bs.length<=9223372036854775807):
  Calls Tryz.prog 27 #[v,vl] w fun e w'=>∃t:List UInt8,e=.returned (.string ⟨t.toArray⟩)/\za w w'/\t.length<=5000000:=by
 have HJ:=zh h;have b9:=zh hb;have o:(BB (zr m ns)).length=8:=Aw _;obtain ⟨f,u,t,rfl,⟨_,⟨Af,cf,rfl,-,-⟩,-⟩,⟨Au,cu,rfl,-,-⟩,⟨-,_,⟨At,ct,rfl,-,-⟩,-⟩⟩:=_root_.id h.hm;obtain ⟨Ap,cp,rfl,-⟩:=hb;obtain ⟨I,hI⟩:=zaI (BB (zr m ns));rw [<-hI] at o;obtain ⟨H,hH⟩:=zaI (zx I)
 have f7:H.length<=1000:=by
  have h1:=Bv (s:=BJ) (by decide);have h2:=Bv (s:=I) (by omega);have h3:BJ.length=5:=rfl;rw [hH];show (wT BJ++wT I).length<=_;rw [FG];omega
 have b8:Hid (∀W,za w W->Calls Tryz.prog 29 #[.agg #[.int .i64 m.w,.int .i64 m.h,.int .i64 m.l,.slice Af m.free.length cf,.slice Au m.up.length cu,.slice At m.tasks.length ct]] W fun e w'=>e=.returned (.tuple #[.string ⟨H.toArray⟩,.int .i64 0])/\za W w'):=fun W hW=>by
  have h1:=Ei W (HJ.out.below hW);rw [hc,if_pos rfl] at h1;rw [hH,hI];exact h1
 have a2:Hid (∀(S:List UInt8) (n:Nat),S.length<=5000000->n<=60->∀W,za w W->Calls Tryz.prog 74 #[.agg #[.int .i64 m.w,.int .i64 m.h,.int .i64 m.l,.slice Af m.free.length cf,.slice Au m.up.length cu,.slice At m.tasks.length ct],.string ⟨S.toArray⟩,.int .i64 n] W (RunX W (runT m I S n))):=fun S n hS hn W hW=>by
  rw [hI];exact mRunT_calls n W (HJ.out.below hW) (by omega) (by omega)
 have c6:Hid (∀(S:List UInt8) (n:Nat),H <+: S->H <+: (runT m I S n).1):=fun S n hp=>by
  unfold runT;rw [if_pos hc,hH] at*;exact runF_pre o (by omega) hp
 have c0:Hid (∀(S:List UInt8) (n:Nat),n<=60->(runT m I S n).1.length<=S.length+7000*n):=fun S n hn=>by
  have:=runT_len (m:=m) (s:=S) (n:=(n:Int)) o (by omega);simpa using this
 clear h hc hI hH o
 go_enter Tryz.func27,Tryz.ntmps27
 go_upto_region 1 with fail;obtain ⟨E,r0,r1,r2,r3,r4,r5⟩:=CO w m Af cf Au cu At ct;simp only [Fr] at E r0 r1 r2 r3 r4 r5;generalize w.alloc _=w2 at E r0 r1 r2 r3 r4 r5⊢;generalize w.heap.size=gm at r0 r1 r2 r3 r4 r5⊢;have O:=zh E;have e7:za w2 w2:=za.refl w2;have b7:=zh (b9.out.ext E);clear E
 go_wp2_with fail
 refine (b8.out _ O.out).mono ?_;rintro e w3 ⟨rfl,a5⟩;have b2:za w2 w3:=a5;have c8:=zh b2;clear a5 e7
 go_wp2_with fail
 clear b2;go_loopw [5,8] (fun v5 v8 wr=>∃(k:Nat) (S:List UInt8),v5=.string ⟨S.toArray⟩/\v8=.int .i64 k/\k<=6/\Hid (S.length<=1000+420000*k)/\Hid (H <+: S)/\Hid (za w2 wr)) (fun _ v8 _=>6 - (intOf v8).toNat)
 case atStart=>exact ⟨0,H,rfl,rfl,by omega,by (show _<=_);omega,List.prefix_rfl,c8.out⟩
 case round=>
  obtain ⟨k,S,rfl,rfl,V,J,HP,HX⟩:=hrel;obtain ⟨wk,rfl⟩:∃wk:World,wk=wr:=⟨_,rfl⟩;have hx:za w2 wk:=HX.out;by_cases a9:k<bs.length/\k<6
  ·obtain ⟨b0,e3⟩:=a9;have g4:decide ((k:Int)<(bs.length:Int))=true:=FB (by omega);have g5:decide ((k:Int)<6)=true:=FB (by omega);have g6:decide (k<bs.length)=true:=FB b0;have g7:decide (k<6)=true:=FB e3;have g8:(k:Int)<(bs.length:Int):=by omega
   have f2:(0:Int)<=(k:Int):=by omega
   obtain ⟨A9,c9,e9,a8⟩:=b7.out;injection e9 with e91 e92 e93;subst e91;obtain ⟨bb,off,rfl,Q,U,d9,e0⟩:=a8 k b0;obtain ⟨y0,b3⟩:∃n,n=bs[k].1:=⟨_,rfl⟩;obtain ⟨y1,b4⟩:∃n,n=bs[k].2:=⟨_,rfl⟩;rw [<-b3] at Q d9;rw [<-b4] at U e0;have qn:=za.rule Q;have qq:=za.rule U;obtain ⟨n,hn⟩:∃n:Nat,(n:Int)=(y0:Int).tmod 60:=⟨((y0:Int).tmod 60).toNat,by have:=Int.tmod_nonneg 60 (show (0:Int)<=(y0:Int) by omega);omega⟩;have f3:n<60:=by have:=Int.tmod_lt_of_pos (y0:Int) (show (0:Int)<60 by omega);omega
   obtain ⟨q,hq⟩:∃n:Nat,(n:Int)=(y1:Int).tmod 100:=⟨((y1:Int).tmod 100).toNat,by have:=Int.tmod_nonneg 100 (show (0:Int)<=(y1:Int) by omega);omega⟩;have e5:q<100:=by have:=Int.tmod_lt_of_pos (y1:Int) (show (0:Int)<100 by omega);omega
   have g9:(y0:Int).tmod 60=(n:Int):=hn.symm;have h5:(y1:Int).tmod 100=(q:Int):=hq.symm;have h8:IntKind.i64.wrap (y0:Int)=(y0:Int):=by rw [zag];omega
   have h9:IntKind.i64.wrap (y1:Int)=(y1:Int):=by rw [zag];omega
   have h6:IntKind.i64.wrap (n:Int)=(n:Int):=by rw [zag];omega
   have h7:IntKind.i64.wrap (q:Int)=(q:Int):=by rw [zag];omega
   obtain ⟨R,hR⟩:=zaI (runT m I S n);have G:=c0.out S n (by omega);have D:=c6.out S n HP.out
   have c7:Hid (∀W,za w2 W->Calls Tryz.prog 74 #[.agg #[.int .i64 m.w,.int .i64 m.h,.int .i64 m.l,.slice Af m.free.length cf,.slice Au m.up.length cu,.slice At m.tasks.length ct],.string ⟨S.toArray⟩,.int .i64 n] W (RunX W R)):=fun W hW=>by
    rw [hR];exact a2.out S n (FA J.out (b42 V).1) (by omega) W (O.out.trans hW)
   rw [<-hR] at G D;obtain ⟨T,d,er⟩:=R;have G:T.length<=S.length+7000*n:=G;have D:H <+: T:=D;have a7:T.length<=1000+420000*(k+1):=by have:=J.out;omega
   have g1:T.length<=5000000:=FA a7 (b42 V).2;have f6:=D.length_le;obtain ⟨M,hM⟩:=zaI (max H.length (T.length - q));have f9:M<=T.length:=by omega
   have d7:max (H.length:Int) ((T.length:Int) - (q:Int))=(M:Int):=by omega
   have e6:IntKind.i64.wrap ((T.length:Int) - (q:Int))=(T.length:Int) - (q:Int):=by rw [zag];omega
   have e1:ByteArray.extract ⟨T.toArray⟩ 0 M=⟨(T.take M).toArray⟩:=Cl T M;have a3:Hid ((T.take M).length<=1000+420000*(k+1)):=by (show _<=_);rw [za3];omega
   have a1:Hid (H <+: T.take M):=by
    (show _ <+: _)
    obtain ⟨r,rfl⟩:=D;rw [List.take_append,List.take_of_length_le (by omega)];exact List.prefix_append ..
   obtain ⟨S2,a6⟩:∃S,S=T.take M:=⟨_,rfl⟩;rw [<-a6] at a3 a1 e1;have g0:(M:Int)<=(T.length:Int):=by omega
   clear hR G D hM a7 a6 Q U b3 b4 hn hq a8 e92 e93;go_upto_region 6 with fail;go_cut [5] (fun v5 wc=>v5=.string ⟨T.toArray⟩/\Hid (za w2 wc))
   case first=>
    clear e1 e6 d7;refine zab (S:=(fun W=>za w2 W)) zG (hx.drew) fun zH=>?_;generalize wk.drew=wd at zH⊢;refine zi 0 zH ?_;refine zi 1 zH ?_;simp only [zc,Fv];refine zi 2 zH ?_;refine zi 3 zH ?_;simp only [zc,Fv];refine zi 4 zH ?_;refine zi 5 zH ?_;simp only [zc,Fv];refine zi 6 zH ?_;refine zi 7 zH ?_;simp only [zc,Fv];refine zi 8 zH ?_;simp only [zc,Fv];refine BO 9 fun K hK=>?_;go_simp;go_at_call 74;refine (c7.out _ zH).mono ?_;rintro e w6 ⟨rfl,d6⟩;go_simp;refine zaJ hK (zH.trans d6) fun zH=>?_;clear hK K;try simp only [zc,Fv]
    refine zi 10 zH ?_;refine zi 11 zH ?_;simp only [zc,Fv];refine zi 12 zH ?_;refine zi 13 zH ?_;simp only [zc,Fv];refine zi 14 zH ?_;simp only [zc,Fv];refine zao (by kernel_rfl) ?_ _;have d5:=zh zH;clear zH hx;go_wp2;go_meet;exact ⟨rfl,d5⟩
   case rest=>
    obtain ⟨rfl,a4⟩:=hcut;obtain ⟨w6,rfl⟩:∃w6:World,w6=wc:=⟨_,rfl⟩;have i0:za w2 w6:=a4.out;clear hx
    go_wp2_with fail
    go_roundw
    case rel=>exact ⟨k+1,S2,rfl,by go_num,by omega,a3.out,a1.out,a4.out⟩
    case measure=>simp [intOf];omega
  ·have e4:decide (k<bs.length)=false\/(decide (k<bs.length)=true/\decide ((k:Int)<6)=false):=by
    by_cases h1:k<bs.length
    ·exact .inr ⟨FB h1,FC (by omega)⟩
    ·exact .inl (FC h1)
   have a0:Hid (za w wk):=O.out.trans hx;clear a9 hx;rcases e4 with h1 | ⟨h1,h2⟩
   all_goals
    go_wp2_with fail
    go_ret;exact ⟨_,rfl,a0.out,FA J.out (b42 V).1⟩
theorem Fo {v:Value} (n:Int) (w:World) (hv:zv w) (h:JP w ok v m ns) (g6:s.length<=30000000) (hn:-1000<=n/\n<=1000) (e5:MakeC w v m) (e6:MakeQ w v m):
  Calls Tryz.prog 30 #[v,.string ⟨s.toArray⟩,.int .i64 n] w fun e w'=>e=.returned (.bool true)/\za w w':=by
 have HJ:=zh h;have o:(BB (zr m ns)).length=8:=Aw _;obtain ⟨f,u,t,rfl,⟨_,⟨Af,cf,rfl,-,-⟩,-⟩,⟨Au,cu,rfl,-,-⟩,⟨-,_,⟨At,ct,rfl,-,-⟩,-⟩⟩:=_root_.id h.hm;obtain ⟨I,hI⟩:=zaI (BB (zr m ns));rw [<-hI] at o;obtain ⟨P,hP⟩:=zaI (opT m I s);obtain ⟨R,hR⟩:=zaI (runT m I s n);have a0:=opT_len (m:=m) (s:=s) o;have e7:=runT_len (m:=m) (s:=s) (n:=n) o hn.2;rw [<-hP] at a0;rw [<-hR] at e7;obtain ⟨Z,hZ⟩:=zaI (resT m I R.1);have a9:=resT_b h.hl (s:=R.1) o;rw [<-hZ] at a9;have M:=zh a9;have V:R.1.length<=40000000:=by omega
 have HV:=zh hv;have b7:Hid (∀W,za w W->Calls Tryz.prog 33 #[.agg #[.int .i64 m.w,.int .i64 m.h,.int .i64 m.l,.slice Af m.free.length cf,.slice Au m.up.length cu,.slice At m.tasks.length ct],.string ⟨s.toArray⟩] W (RdX W P)):=fun W hW=>by rw [hP,hI];exact jReadT_calls W (HV.out.ext hW) (HJ.out.below hW) (by omega)
 have b5:Hid (∀W,za w W->Calls Tryz.prog 34 #[.agg #[.int .i64 m.w,.int .i64 m.h,.int .i64 m.l,.slice Af m.free.length cf,.slice Au m.up.length cu,.slice At m.tasks.length ct],.string ⟨s.toArray⟩] W (RdX W P)):=fun W hW=>by rw [hP,hI];exact mReadT_calls W (HJ.out.below hW) (by omega)
 have b6:Hid (∀W,za w W->Calls Tryz.prog 32 #[.agg #[.int .i64 m.w,.int .i64 m.h,.int .i64 m.l,.slice Af m.free.length cf,.slice Au m.up.length cu,.slice At m.tasks.length ct],.string ⟨s.toArray⟩,.int .i64 n] W (RunX W R)):=fun W hW=>by rw [hR,hI];exact jRunT_calls n W (HV.out.ext hW) (HJ.out.below hW) (by omega) hn
 have b4:Hid (∀W,za w W->Calls Tryz.prog 74 #[.agg #[.int .i64 m.w,.int .i64 m.h,.int .i64 m.l,.slice Af m.free.length cf,.slice Au m.up.length cu,.slice At m.tasks.length ct],.string ⟨s.toArray⟩,.int .i64 n] W (RunX W R)):=fun W hW=>by rw [hR,hI];exact mRunT_calls n W (HJ.out.below hW) (by omega) hn
 obtain ⟨T,d,er⟩:=R;have V:T.length<=40000000:=V
 have b8:Hid (∀W,za w W->Calls Tryz.prog 71 #[.agg #[.int .i64 m.w,.int .i64 m.h,.int .i64 m.l,.slice Af m.free.length cf,.slice Au m.up.length cu,.slice At m.tasks.length ct],.string ⟨T.toArray⟩] W (ResR W Z)):=fun W hW=>by
  rw [hZ,hI];exact (EZ W (HV.out.ext hW) (HJ.out.below hW) V fun _ _ _ _ _ W' h=>e5 W' (hW.trans h)).mono fun e w' h=>h.r
 have f8:Hid (∀W,za w W->Calls Tryz.prog 78 #[.agg #[.int .i64 m.w,.int .i64 m.h,.int .i64 m.l,.slice Af m.free.length cf,.slice Au m.up.length cu,.slice At m.tasks.length ct],.string ⟨T.toArray⟩] W (ResR W Z)):=fun W hW=>by
  rw [hZ,hI];exact (mResultT_calls W (HJ.out.below hW) V fun _ _ _ _ _ W' h=>e6 W' (hW.trans h)).mono fun e w' h=>h.r
 obtain ⟨x,e0⟩:=P
 have c6:Hid (∀W va vb,zg W (fun _=>True) va x.ch->zg W (fun _=>True) vb x.ch->Calls Tryz.prog 15 #[va,vb] W fun e w'=>e=.returned (.bool true)/\za W w'):=fun W va vb h h'=>by
  have a0:x.ch.length<=s.length:=a0;have h1:=EN W h h' (by omega) (by omega);rw [FB rfl] at h1;exact h1.mono fun e w' h=>⟨h.1,h.2.below _⟩
 clear hv h g6 hn e5 e6 hI hP hR hZ a0 e7 a9 o
 go_enter Tryz.func30,Tryz.ntmps30
 go_upto_region 1 with fail;obtain ⟨U,r0,r1,r2,r3,r4,r5⟩:=CO w m Af cf Au cu At ct;simp only [Fr] at U r0 r1 r2 r3 r4 r5;generalize w.alloc _=w2 at U r0 r1 r2 r3 r4 r5⊢;generalize w.heap.size=gm at r0 r1 r2 r3 r4 r5⊢;have D:=zh U;have g7:za w2 w2:=za.refl w2;clear U
 go_wp2_with fail
 refine (b7.out _ D.out).mono ?_;rintro e w3 ⟨va,rfl,c8,d8⟩;have f5:=zh d8.anyL;have a4:za w2 w3:=c8;clear c8 d8 g7 b7
 go_wp2_with fail
 refine (b5.out _ (D.out.trans a4)).mono ?_;rintro e w4 ⟨vb,rfl,a2,d9⟩;have f6:=zh d9.anyL;have b1:=zh (f5.out.below a2);have e8:za w2 w4:=a4.trans a2;have i0:(e0 != e0)=false:=by simp
 have i2:(x.steps != x.steps)=false:=by simp
 clear a2 d9 a4 b5
 go_wp2_with fail
 refine (c6.out w4 _ _ b1.out f6.out).mono ?_;rintro e w5 ⟨rfl,c9⟩;have a5:za w2 w5:=e8.trans c9;clear c9 e8 c6
 go_wp2_with fail
 refine (b6.out _ (D.out.trans a5)).mono ?_;rintro e w6 ⟨rfl,d5⟩;have a6:za w2 w6:=a5.trans d5;clear d5 a5 b6
 go_wp2_with fail
 refine (b4.out _ (D.out.trans a6)).mono ?_;rintro e w7 ⟨rfl,d6⟩;have a7:za w2 w7:=a6.trans d6;have i1:(er != er)=false:=by simp
 have h9:(d != d)=false:=by simp
 have h8:(T.toArray != T.toArray)=false:=by simp
 clear d6 a6 b4
 go_wp2_with fail
 refine (b8.out _ (D.out.trans a7)).mono ?_;rintro e w8 ⟨Ap1,cp1,As1,cs1,Ak1,ck1,rfl,d7,e1,e3⟩;have e9:za w2 w8:=a7.trans d7;clear d7 a7 b8;go_upto_region 10 with fail;have O:za w8 (w8.alloc (.cells #[.int .i64 Z.2.1.task,.slice As1 Z.2.1.side.length cs1,.slice Ak1 Z.2.1.kids.length ck1] 41)):=(za.refl w8).alloc _;have E:=ze.new w8 #[.int .i64 Z.2.1.task,.slice As1 Z.2.1.side.length cs1,.slice Ak1 Z.2.1.kids.length ck1] 41 (g:=w8.heap.size) rfl;generalize w8.alloc _=wA at O E⊢;generalize w8.heap.size=gA at E⊢;have a8:za w2 wA:=e9.trans O;have f7:=zh (e1.below O);have f9:=zh (e3.ext O);have u0:=za.rule (E.cell (k:=0) rfl);have u1:=za.rule (E.cell (k:=1) rfl);have u2:=za.rule (E.cell (k:=2) rfl);clear e9 O E e1 e3
 go_wp2_with fail
 refine (f8.out _ (D.out.trans a8)).mono ?_;rintro e w9 ⟨Ap2,cp2,As2,cs2,Ak2,ck2,rfl,a3,e2,e4⟩;have f0:za w2 w9:=a8.trans a3;go_upto_region 11 with fail;have J:za w9 (w9.alloc (.cells #[.int .i64 Z.2.1.task,.slice As2 Z.2.1.side.length cs2,.slice Ak2 Z.2.1.kids.length ck2] 41)):=(za.refl w9).alloc _;have G:=ze.new w9 #[.int .i64 Z.2.1.task,.slice As2 Z.2.1.side.length cs2,.slice Ak2 Z.2.1.kids.length ck2] 41 (g:=w9.heap.size) rfl;generalize w9.alloc _=wB at J G⊢;generalize w9.heap.size=gB at G⊢;have a1:za wA wB:=a3.trans J;have b2:=zh (f7.out.below a1);have b9:=zh (f9.out.ext a1);have b3:=zh (e2.below J);have c0:=zh (e4.ext J);have g3:Hid (za w wB):=D.out.trans (f0.trans J);have v0:=za.rule (G.cell (k:=0) rfl);have v1:=za.rule (G.cell (k:=1) rfl);have v2:=za.rule (G.cell (k:=2) rfl);have c7:=zh (samePaths_t wB rfl b2.out b3.out M.out.1 M.out.2.1);have g9:(Z.2.2==Z.2.2)=true:=by simp
 clear a8 f0 a3 J G e2 e4
 go_wp2_with fail
 refine c7.out.mono ?_;rintro e wC ⟨rfl,hD⟩;have Q:za wB wC:=hD.below _;have h7:za wA wC:=a1.trans Q
 have g0:Hid (Calls Tryz.prog 57 #[.agg #[.int .i64 Z.2.1.task,.slice As1 Z.2.1.side.length cs1,.slice Ak1 Z.2.1.kids.length ck1],.agg #[.int .i64 Z.2.1.task,.slice As2 Z.2.1.side.length cs2,.slice Ak2 Z.2.1.kids.length ck2]] wC fun e w'=>e=.returned (.bool true)/\za wC w'):=by
  have h:=psame_calls 3000 wC (b9.out.ext Q) (c0.out.ext Q) M.out.2.2.2 M.out.2.2.1 M.out.2.2.1;rw [sameP_refl] at h;exact h
 have g4:Hid (za w wC):=g3.out.trans Q;clear hD c7
 go_wp2_with fail
 refine g0.out.mono ?_;rintro e wD ⟨rfl,g5⟩
 go_wp2_with fail
 go_ret;exact ⟨rfl,g4.out.trans g5⟩
def MakeQA:Prop:=∀(w:World) (ok:Nat->Prop) (v:Value) (m:MZ),zL w ok v m->Lens m->MakeQ w v m
end
section
open Go.ChangeShapes Go.WideShapes Go.ChangeAt Go.RowKit
section
variable {H:Type} {enc:TypeId×Value->H} {w:World} {base:Nat} {held:Bool} {fuel:Nat} {cs:List Value} {x:DataW H×List MemPlace}
theorem sliceOpenN {t e:TypeId} {sz:Nat} (ht:Tryz.prog.underlying t=some (.slice e)) (Q:Tryz.prog.cellsOf e=sz) (h0:0<sz) (h:DataW.trod enc Tryz.prog w base (fun _=>true) held fuel t cs=some x):
  ∃A len c,cs=[.slice A len c]/\len<=c/\len<=9223372036854775807/\(0<len->∃b off,A=some ⟨b,off,none⟩/\∀i,i<len->∃(cl:List Value) (n:Nat) (y:DataW H×List MemPlace),n<fuel/\cl.length=sz/\(∀j,j<sz->w.cell? ⟨b,off+(i*sz+j),none⟩=cl[j]?)/\DataW.trod enc Tryz.prog w base (fun _=>true) held n e cl=some y):=by
 rcases DataW.trod_slice ht h with ⟨rfl,_⟩ | ⟨a,len,cap,elems,rest,n,V,rfl,_,hb,hl,hm,U,J,_,_⟩
 ·exact ⟨none,0,0,rfl,Fy _,by decide,fun h=>by omega⟩
 ·refine ⟨some a,len,cap,rfl,hl,by unfold maxLen at hm;omega,fun E=>?_⟩
  have each:∀i,i<len->∃(cl:List Value) (y:DataW H×List MemPlace),w.cells? base (a.add (i*sz)) sz=some cl/\DataW.trod enc Tryz.prog w base (fun _=>true) held n e cl=some y:=fun i M=>by
   have h1:=J i M;rw [Q,Fw (by omega)] at h1;obtain ⟨cl,h2,h3⟩:=Option.bind_eq_some_iff.1 h1;exact ⟨cl,_,h2,h3⟩
  have O:a.spot=none:=by
   obtain ⟨cl,y,h2,_⟩:=each 0 E;obtain ⟨_,h4,G⟩:=World.cells?_some h2;have D:=G 0 h0;rw [Fw (by omega)] at D;have I:=spot_none D;rw [Nat.zero_mul] at I;unfold Addr.add at I
   rwa [if_pos rfl,if_pos rfl] at I
  refine ⟨a.block,a.off,?_,fun i M=>?_⟩
  ·obtain ⟨b,o,s⟩:=a;simp only at O;subst O;rfl
  ·obtain ⟨cl,y,h2,h3⟩:=each i M;obtain ⟨_,h4,G⟩:=World.cells?_some h2;refine ⟨cl,n,y,by omega,h4,fun j hj=>?_,h3⟩;have D:=G j hj;rw [addr_at O,addr_at rfl] at D;rw [<-Nat.add_assoc];exact D
theorem fieldOpenN {t:TypeId} {fs:Array Field} (ht:Tryz.prog.underlying t=some (.struct fs)) (h:DataW.trod enc Tryz.prog w base (fun _=>true) held fuel t cs=some x):
  cs.length=Tryz.prog.cellsOf t/\∀(i ty off sz:Nat),(fs[i]?).map (fun f=>(f.type,f.offset))=some (ty,off)->Tryz.prog.cellsOf ty=sz->∃n y,n<fuel/\DataW.trod enc Tryz.prog w base (fun _=>true) held n ty ((cs.drop off).take sz)=some y:=by
 obtain ⟨xs,n,I,_,J,M,hf⟩:=DataW.trod_struct ht h;refine ⟨J,fun i ty off sz o G=>?_⟩;obtain ⟨f,o,he⟩:=Option.map_eq_some_iff.1 o;injection he with D E;have h1:=hf i f o;have h2:i<fs.size:=(za7.1 o).1;rw [Fw (by omega),D,E,G] at h1;exact ⟨n,_,by omega,h1⟩
end
theorem vTab : Tryz.prog.globalNamed "internal/strconv.uint64pow10" = some 0 := by kernel_rfl
theorem vSyn : Tryz.prog.globalNamed "strconv.ErrSyntax" = some 4 := by kernel_rfl
theorem vRng : Tryz.prog.globalNamed "strconv.ErrRange" = some 5 := by kernel_rfl
theorem vtTab:(Tryz.prog.globals[0]?).map (·.type)=some 267:=by kernel_rfl
theorem vtSyn:(Tryz.prog.globals[4]?).map (·.type)=some 136:=by kernel_rfl
theorem vtRng:(Tryz.prog.globals[5]?).map (·.type)=some 136:=by kernel_rfl
theorem star4 : "*" ++ "errors.errorString" = "*errors.errorString" := by decide
theorem row314 (u : TypeId) (h : Tryz.prog.typeName? 3 u = some "*errors.errorString") : u = 306 :=
 typeName_ptr_named (nm := "errors.errorString") (by rw [star4]; kernel_rfl) (by kernel_rfl) (by decide) u (by rw [star4]; exact h)
theorem laid_tab:(Rows.laid_internal_strconv_uint64pow10:DataW Unit)=Lib.tabData .u64 Lib.pow10Tab:=by kernel_rfl
theorem varsOk_laid {W: World} {a b: String × DataW Unit} (h : laidMet Tryz.prog [a, b, ("internal/strconv.uint64pow10", Rows.laid_internal_strconv_uint64pow10), ("strconv.ErrRange", Rows.laid_strconv_ErrRange), ("strconv.ErrSyntax", Rows.laid_strconv_ErrSyntax)] W) : zv W := by
 have h2:=h.tail.tail;obtain ⟨a0,s0,hv0,-,-,-⟩:=laid_sentinel h2.tail vRng vtRng Tryz.underlying136 row314 Tryz.underlying306 Tryz.underlying308 rfl rfl Tryz.underlying9 (by kernel_rfl) (by kernel_rfl);obtain ⟨a1,s1,hv1,-,-,-⟩:=laid_sentinel h2.tail.tail vSyn vtSyn Tryz.underlying136 row314 Tryz.underlying306 Tryz.underlying308 rfl rfl Tryz.underlying9 (by kernel_rfl) (by kernel_rfl);rw [laid_tab] at h2;exact ⟨Lib.tabIs_of_head vTab vtTab Tryz.underlying267 Tryz.underlying252 (by kernel_rfl) (by kernel_rfl) h2,⟨_,_,hv1⟩,⟨_,_,hv0⟩⟩
theorem intssArg {H:Type} {enc:TypeId×Value->H} {base:Nat} {v0:Value} {d0:DataW H} {p0:List MemPlace} {W:World} (o:Value.okWide Tryz.prog W .any base 22 v0) (h0:DataW.Trod enc Tryz.prog W 0 (fun _=>true) true 22 v0 d0 p0):∃l,zU W (fun _=>True) v0 l/\l.length<=9223372036854775807/\∀a∈l,a.length<=9223372036854775807:=by
 obtain ⟨A,n,c,rfl⟩:=okWide_slice Tryz.underlying22 o;obtain ⟨fuel,h0⟩:=h0;obtain ⟨v,l,e0,h⟩:=intssOpen h0;have e1:Value.slice A n c=v:=by injection e0
 subst e1;exact ⟨l,h⟩
section
variable {H:Type} {enc:TypeId×Value->H} {base:Nat} {v v0 v1:Value} {d d0 d1:DataW H} {p p0 p1:List MemPlace} {W:World}
theorem cellsCut30:Tryz.prog.cellsOf 123=2:=by kernel_rfl
theorem cellsU8b:Tryz.prog.cellsOf 5=1:=by kernel_rfl
theorem cellsU16b:Tryz.prog.cellsOf 60=1:=by kernel_rfl
theorem cutsArg (V:Value.okWide Tryz.prog W .any base 59 v) (h:DataW.Trod enc Tryz.prog W 0 (fun _=>true) true 59 v d p):∃l,CutsV W v l/\l.length<=9223372036854775807:=by
 obtain ⟨A0,n0,c0,rfl⟩:=okWide_slice Tryz.underlying59 V;obtain ⟨fuel,h⟩:=h;obtain ⟨A,len,c,e2,Q,U,o⟩:=sliceOpenN Tryz.underlying59 cellsCut30 (by omega) h
 have e2:Value.slice A0 n0 c0=Value.slice A len c:=by
  have e3:(Value.slice A0 n0 c0).cells.toList=[Value.slice A0 n0 c0]:=rfl;rw [e3] at e2;injection e2
 rw [e2];rcases zav len with rfl | hpos
 ·exact ⟨[],⟨A,c,rfl,fun k E=>by simp at E⟩,by simp⟩
 ·obtain ⟨b,off,rfl,D⟩:=o hpos
  obtain ⟨l,G,hp⟩:=chooseList (β:=Nat×Nat) (p:=fun i x=>W.cell? ⟨b,off+(i*2),none⟩=some (.int .u8 (x.1:Nat))/\W.cell? ⟨b,off+(i*2+1),none⟩=some (.int .u16 (x.2:Nat))/\x.1<=255/\x.2<=65535) len (fun i O=>by
   obtain ⟨cl,n,y,hn,h1,h2,h3⟩:=D i O;obtain ⟨M,hf⟩:=fieldOpenN Tryz.underlying123 h3;rw [cellsCut30] at M
   obtain ⟨x0,x1,rfl⟩:∃a b,cl=[a,b]:=by
    match cl,M with
    | [a,b],_=>exact ⟨a,b,rfl⟩
   obtain ⟨m0,y0,-,f0⟩:=hf 0 _ _ _ rfl cellsU8b;obtain ⟨m1,y1,-,f1⟩:=hf 1 _ _ _ rfl cellsU16b;have f0:DataW.trod enc Tryz.prog W 0 (fun _=>true) true m0 5 [x0]=some y0:=f0;have f1:DataW.trod enc Tryz.prog W 0 (fun _=>true) true m1 60 [x1]=some y1:=f1;obtain ⟨k0,e0,_,I⟩:=DataW.trod_int Tryz.underlying5 f0;obtain ⟨k1,e1,_,J⟩:=DataW.trod_int Tryz.underlying60 f1;have this0:=I;have this1:=J;simp only [Lit.wf,IntKind.has,FK,FI] at this0 this1;have a1:IntKind.u8.min=0:=rfl;have a2:IntKind.u8.max=255:=rfl;have a3:IntKind.u16.min=0:=rfl;have a4:IntKind.u16.max=65535:=rfl;injection e0 with e0;injection e1 with e1;subst e0 e1;have g0:=h2 0 (by omega);have g1:=h2 1 (by omega);refine ⟨(k0.toNat,k1.toNat),?_,?_,by show k0.toNat<=255;omega,by show k1.toNat<=65535;omega⟩
   ·show _=some (Value.int .u8 ((k0.toNat:Nat):Int));rw [Int.toNat_of_nonneg (by omega)];exact g0
   ·show _=some (Value.int .u16 ((k1.toNat:Nat):Int));rw [Int.toNat_of_nonneg (by omega)];exact g1)
  refine ⟨l,⟨some ⟨b,off,none⟩,c,by rw [G],fun k E=>?_⟩,by omega⟩;obtain ⟨h1,h2,h3,h4⟩:=hp k _ (Fw E);exact ⟨b,off,rfl,h1,by rw [Nat.add_assoc];exact h2,h3,h4⟩
end
end
section
open Go.RowKit
attribute [local go_sem ↓] Go.wp_at_zero Go.wp_at_succ
def regOf (n:Nat):Code->Option Code
 | .region id ops d=>if id=n then some (.region id ops d) else none
 | .seq a b=>match regOf n a with
  | some c=>some c
  | none=>regOf n b
 | .cond _ a b=>match regOf n a with
  | some c=>some c
  | none=>regOf n b
 | .block _ c=>regOf n c
 | .loop c=>regOf n c
 | _=>none
theorem wp_cast {P:Program} {c c':Code} {Q:Exit->Act->World->Prop} {a:Act} {w:World} (h:c'=c) (o:c'.wp P Q a w):c.wp P Q a w:=h ▸ o
end
end Go.Proofs.YtjomnbdjajjgfaaGreatDoor
