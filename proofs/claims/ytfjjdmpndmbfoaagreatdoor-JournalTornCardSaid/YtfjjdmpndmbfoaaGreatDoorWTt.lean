import Derived.Test.YtfjjdmpndmbfoaaGreatDoorWTs
import Derived.Scope
import Derived.LoopIn
set_option linter.unusedVariables false
set_option linter.unusedSimpArgs false
set_option maxRecDepth 100000
set_option maxHeartbeats 16000000
namespace Go.Proofs.YtfjjdmpndmbfoaaGreatDoor
variable {ns:List ByteArray} {x y z:List UInt8} {bs xs:List Value} {m:MZ} {B base k n size:Nat} {K X ok:Nat->Prop} {A:Option Addr} {P:Program} {v:Value} {w w':World}
section
open Go.RowKit Go.Shelf
attribute [local go_sem ↓] Go.wp_at_zero Go.wp_at_succ
theorem own_blk_neF {e:TypeId} {g:Nat} {t:TypeId} {cs:Array Value} (h:w.ownsRowF base e size v n xs) (d:zg w g t cs) (o:e≠t):v.ownBlock≠some g:=by
 rcases h.2 with ⟨rfl,_⟩ | ⟨g',cap,cur,fz,rfl,_,hh,_⟩
 ·simp [Value.ownBlock]
 ·intro he;have:g'=g:=by simpa [Value.ownBlock] using he
  subst this;unfold zg at d;rw [hh] at d;injection d with d;injection d with _ ht;exact o ht
theorem cc_keep (h:Dx B bs w):Calls Tryz.prog 61 #[.pointer (some ⟨B,0,none⟩)] w fun e w'=>e=.returned (.tuple #[])/\BuiU B bs w'/\Below B w w'/\∀g,g≠B->w'.heap[g]?=w.heap[g]?:=by
 rcases h with h | h
 ·refine (ccNew B w h.cell0 h.shape h.frozen0).mono ?_;rintro e w' ⟨rfl,rfl⟩;exact ⟨rfl,h.used _,(Below.refl B w).setCell (p:=⟨B,0,none⟩) (DE _) _,fun g d=>DN w ⟨B,0,none⟩ _ g d⟩
 ·refine (ccUsed B w h.cell0).mono ?_;rintro e w' ⟨rfl,rfl⟩;exact ⟨rfl,h,Below.refl B w,fun _ _=>rfl⟩
theorem BK (s:ByteArray) (h:Dx B bs w) (hl:bs.length+s.size<=140737488355328):
  Calls Tryz.prog 32 #[.pointer (some ⟨B,0,none⟩),.string s] w fun e w'=>e=.returned (.tuple #[.int .i64 s.size,.nilIface])/\BuiU B (bs++Lib.strCells s) w'/\Below B w w'/\∀g t cs,g≠B->t≠5->zg w g t cs->zg w' g t cs:=by
 obtain ⟨i0,hi,a0,a1,a2⟩:=info_parts sExt.infoByte;have H:=zh h;clear h
 go_enter Tryz.func32,Tryz.ntmps32
 go_wp2_with fail
 refine (cc_keep H.out).mono ?_;rintro e w1 ⟨rfl,⟨hB,v,G,d,U⟩,J,O⟩;have c1:w1.cell? ⟨B,1,none⟩=some v:=by rw [Lib.cell_of_heap G];rfl
 have Q:=Ci G
 go_wp2_with (at_builtin;refine Lib.wpList_append_own_stringF _ rfl _ _ 51 9 rfl B 5 i0 Tryz.underlying51 Tryz.underlying9 hi a0 a1 a2 _ _ _ rfl d s rfl ?c3 ?c4 ?c5 ?_)
 case c3=>unfold maxLen;omega
 case c4=>omega
 case c5=>omega
 intro v' w2 o M _
 have E:w2.heap[B]?=some (.cells #[.pointer (some ⟨B,0,none⟩),v] 83 (0,0)):=by
  rw [M.block B Q (fun e=>U e.symm)];exact G
 have d1:w2.cell? ⟨B,1,none⟩=some v:=by rw [Lib.cell_of_heap E];rfl
 have f1:w2.frozen? ⟨B,1,none⟩=false:=Lib.frozen_of_heap E 1
 obtain ⟨ao,n',cap,rfl⟩:∃ao n' cap,v'=.slice ao n' cap:=by
  rcases o.2 with ⟨V,_⟩ | ⟨g,cap,cur,fz,V,_⟩
  ·exact ⟨_,_,_,V⟩
  ·exact ⟨_,_,_,V⟩
 have HK:Hid (∀g t cs,g≠B->t≠5->zg w g t cs->zg w2 g t cs):=fun g t cs D ht I=>by
  have h1:zg w1 g t cs:=(O g D).trans I;exact (M.block g (za h1) (fun e=>own_blk_neF d h1 (Ne.symm ht) e.symm)).trans h1
 go_wp2
 go_ret2
 refine ⟨rfl,Lib.BuilderAtF.put (T:=83) (e:=5) hB E (bs':=bs++Lib.strCells s) (by simpa [Lib.strCells_length] using o) (by decide),?_,?_⟩
 ·exact (J.grown M (by omega) (fun k hk=>(d.lt k hk).1)).setCell (p:=⟨B,1,none⟩) hB _
 ·exact fun g t cs D ht I=>(HK.out g t cs D ht I).setOther (a:=⟨B,1,none⟩) D _
theorem tasksJAt {c:Nat} {l:List (List Int×List Int)} (h:TasksN w ok (.slice A n c) l ns) (D:k<l.length) (E:k<ns.length):
  ∃b off u1 u2,A=some ⟨b,off,none⟩/\w.cell? ⟨b,off+k*3,none⟩=some (.string ns[k])/\w.cell? ⟨b,off+k*3+1,none⟩=some u1/\w.cell? ⟨b,off+k*3+2,none⟩=some u2/\zl w ok u1 l[k].1/\zl w ok u2 l[k].2:=by
 obtain ⟨-,vs,⟨A',c',G,_,J,d⟩,he⟩:=h;injection G with e1 e2 e3;subst e1;obtain ⟨b,off,rfl,I,d⟩:=d (by omega);obtain ⟨u1,u2,h0,h1,o,i1,i2⟩:=he k _ _ (DC D) (DC E);exact ⟨b,off,u1,u2,rfl,d _ _ h0,by rw [Nat.add_assoc];exact d _ _ h1,by rw [Nat.add_assoc];exact d _ _ o,i1,i2⟩
theorem bytes_self (s:ByteArray):(⟨s.data.toList.toArray⟩:ByteArray)=s:=by
 apply ByteArray.ext;simp
theorem nums4 (a b c d:Int) (k:Nat) (o:k<4):∃x,[a,b,c,d][k]?=some x/\(#[Value.int .i64 a,.int .i64 b,.int .i64 c,.int .i64 d]:Array Value)[k]?=some (.int .i64 x):=by
 match k,o with
 | 0,_=>exact ⟨_,rfl,rfl⟩
 | 1,_=>exact ⟨_,rfl,rfl⟩
 | 2,_=>exact ⟨_,rfl,rfl⟩
 | 3,_=>exact ⟨_,rfl,rfl⟩
theorem take_get {α:Type} {l:List α} {x:α} (h:l[k]?=some x):l.take (k+1)=l.take k++[x]:=by
 obtain ⟨d,e⟩:=Ew.1 h;rw [DL d,e]
theorem bui_app (h:BuiU B (Lib.byteCells x++Lib.strCells ⟨y.toArray⟩) w) (e:z=x++y):Dx B (Lib.byteCells z) w:=by
 rw [bui_str] at h;rw [e];exact .inr h
theorem Cs (h:x.length+y.length<=140000000000000):(Lib.byteCells x).length+(ByteArray.mk y.toArray).size<=140737488355328:=by
 rw [bui_len];simp [ByteArray.size];omega
theorem Dk (w:World) (hv:zq w) (hm:BD w ok v m ns) (hs:Small m ns):
  Calls Tryz.prog 29 #[v] w fun e w'=>e=.returned (.string (dmk (Dl (AG m ns))))/\zc w w':=by
 have HV:=zh hv;have HS:=zh hs;obtain ⟨f,u,t,rfl,hF,hU,hT⟩:=hm;have HF:=zh hF;have HU:=zh hU;have HT:=zh hT;obtain ⟨_,⟨Af,cf,rfl,-,-⟩,-⟩:=hF;obtain ⟨Au,cu,rfl,-,-⟩:=hU;obtain ⟨-,_,⟨At,ct,rfl,-,-⟩,-⟩:=hT;have p2:=hs.tl;have o9:=hs.fl;clear hv hs
 go_enter Tryz.func29,Tryz.ntmps29
 go_upto_region 2 with fail;have M:=zg.new w #[.int .i64 m.w,.int .i64 m.h,.int .i64 m.l,.slice Af m.free.length cf,.slice Au m.up.length cu,.slice At m.tasks.length ct] 29 (g:=w.heap.size) rfl;have f5:zc w (w.alloc (.cells #[.int .i64 m.w,.int .i64 m.h,.int .i64 m.l,.slice Af m.free.length cf,.slice Au m.up.length cu,.slice At m.tasks.length ct] 29)):=(zc.refl w).alloc _;have b7:(w.alloc (.cells #[.int .i64 m.w,.int .i64 m.h,.int .i64 m.l,.slice Af m.free.length cf,.slice Au m.up.length cu,.slice At m.tasks.length ct] 29)).heap.size=w.heap.size+1:=by simp
 generalize w.alloc _=w1 at M f5 b7⊢;obtain ⟨gm,j2⟩:∃g,g=w.heap.size:=⟨_,rfl⟩;rw [<-j2] at M b7⊢;have b8:Hid (Dx w1.heap.size (Lib.byteCells []) (w1.alloc (.cells #[.pointer none,.slice none 0 0] 83))):=Dx.new w1;have g1:zc w1 (w1.alloc (.cells #[.pointer none,.slice none 0 0] 83)):=(zc.refl w1).alloc _;have b9:Hid ((w1.alloc (.cells #[.pointer none,.slice none 0 0] 83)).heap.size≠w1.heap.size):=by (show _≠_);simp
 generalize w1.alloc _=w2 at b8 g1 b9⊢;obtain ⟨B,hB⟩:=EH w1.heap.size;rw [<-hB] at b8 b9 b7;rw [<-b7];have a5:=zh hB;have r0:=zc.rule (M.cell (k:=0) rfl);have r1:=zc.rule (M.cell (k:=1) rfl);have r2:=zc.rule (M.cell (k:=2) rfl);have r3:=zc.rule (M.cell (k:=3) rfl);have r4:=zc.rule (M.cell (k:=4) rfl);have r5:=zc.rule (M.cell (k:=5) rfl);have V:=zh f5;clear M f5 j2 hB b7;have g0:=nums4 m.w m.h m.l (m.tasks.length:Int);obtain ⟨N4,b5⟩:∃l,l=[m.w,m.h,m.l,(m.tasks.length:Int)]:=⟨_,rfl⟩;rw [<-b5] at g0;have i2:=zh b5;have i3:=zh g0
 have e7:Hid (∀x∈N4,Cp x):=fun x E=>by
  have h1:=HS.out.w;have h2:=HS.out.h;have h3:=HS.out.l;rw [b5] at E;simp at E;rcases E with rfl | rfl | rfl | rfl <;> exact ⟨by omega,by omega⟩
 have e8:Hid (∀k,((N4.take k).flatMap wI).length<=88):=fun k=>by
  have h0:N4.length=4:=by rw [b5];rfl
  have:=wIs_len (l:=N4.take k) fun x E=>e7.out x (List.mem_of_mem_take E)
  have h2:=List.length_take_le k N4;have h3:(N4.take k).length<=4:=by rw [Eu];omega
  omega
 clear g0 b5
 go_wp2_with fail
 have c0:=zg.new w2 #[.int .i64 m.w,.int .i64 m.h,.int .i64 m.l,.int .i64 m.tasks.length] 3 (g:=w2.heap.size) rfl;have c6:zc w2 (w2.alloc (.cells #[.int .i64 m.w,.int .i64 m.h,.int .i64 m.l,.int .i64 m.tasks.length] 3)):=(zc.refl w2).alloc _;generalize w2.alloc _=w3 at c0 c6⊢;obtain ⟨ga,j1⟩:∃g,g=w2.heap.size:=⟨_,rfl⟩;rw [<-j1] at c0 b9⊢;have g8:=zh (b8.out.old c6);have i5:Hid (zc w1 w3):=g1.trans c6;have g9:=zh c0;clear c6 j1 g1 c0 b8;go_loopw [21] (fun i wr=>∃k:Nat,k<=4/\i=.int .i64 k/\Hid (Dx B (Lib.byteCells ((N4.take k).flatMap wI)) wr)/\Hid (zc w1 wr)/\Hid (zg wr ga 3 #[.int .i64 m.w,.int .i64 m.h,.int .i64 m.l,.int .i64 m.tasks.length])) (fun i _=>4 - (intOf i).toNat)
 case atStart=>exact ⟨0,DS _,rfl,g8,i5,g9⟩
 clear g8 i5 g9
 case round=>
  obtain ⟨k,hk,rfl,HB,HX,HA⟩:=hrel;obtain ⟨wk,rfl⟩:∃wk:World,wk=wr:=⟨_,rfl⟩;by_cases O:k<4
  ·have e0:(k:Int)<4:=by omega
   obtain ⟨x,g4,k3⟩:=i3.out k O;have cx:=HA.out.cell k3;have g3:Cp x:=e7.out x (List.mem_of_getElem? g4);have HC:Hid (Calls Tryz.prog 49 #[.int .i64 x] wk fun e w'=>e=.returned (.string ⟨(wI x).toArray⟩)/\zc wk w'):=Di wk (HV.out.ext (V.out.trans HX.out)) g3;have m2:Hid ((N4.take (k+1)).flatMap wI=(N4.take k).flatMap wI++wI x):=by (show _=_);rw [take_get g4,List.flatMap_append];simp
   have HR:Hid ((Lib.byteCells ((N4.take k).flatMap wI)).length+(ByteArray.mk (wI x).toArray).size<=140737488355328):=Cs (by have:=e8.out k;have:=wI_len g3;omega);clear g4 k3 g3
   go_wp2_with fail
   refine HC.out.mono ?_;rintro e w5 ⟨rfl,o⟩;have Q:=zh (HB.out.old o);have l2:=zh (HA.out.ext o);have a3:Hid (zc w1 w5):=HX.out.trans o;clear o cx
   go_wp2_with fail
   refine (BK ⟨(wI x).toArray⟩ Q.out HR.out).mono ?_;rintro e w6 ⟨rfl,G,I,j3⟩;have U:Hid (Dx B (Lib.byteCells ((N4.take (k+1)).flatMap wI)) w6):=bui_app G m2.out;have l3:=zh (j3 ga _ _ b9.out (by decide) l2.out);have J:Hid (zc w1 w6):=by have h:=I;rw [a5.out] at h;exact Below.trans a3.out h
   clear G I j3
   go_wp2_with fail
   go_roundw
   case rel=>exact ⟨k+1,by omega,by go_num,U,J,l3⟩
   case measure=>simp [intOf];omega
  ·obtain rfl:k=4:=by omega
   rw [show ((4:Nat):Int)=(4:Int) from rfl];have e4:N4.take 4=N4:=by rw [i2.out];rfl
   rw [e4] at HB;have e6:Hid ((N4.flatMap wI).length<=88):=by have h:=e8.out 4;rw [e4] at h;exact h
   obtain ⟨D1,f2⟩:∃D,D=N4.flatMap wI:=⟨_,rfl⟩;rw [<-f2] at HB e6;have m0:=zh f2;have E:zc w1 wk:=HX.out;clear f2 e4 i3 e7 e8 HA
   go_wp2_with fail
   clear E;go_loopw [32] (fun i wr=>∃k:Nat,k<=m.tasks.length/\i=.int .i64 k/\Hid (Dx B (Lib.byteCells (D1++AJ (m.tasks.take k) (ns.take k))) wr)/\Hid (zc w1 wr)) (fun i _=>m.tasks.length - (intOf i).toNat)
   case atStart=>exact ⟨0,DS _,rfl,by rw [List.take_zero,List.take_zero,show D1++AJ [] []=D1 from List.append_nil _];exact HB,HX⟩
   clear HB HX
   case round=>
    obtain ⟨k,hk,rfl,HB,HX⟩:=hrel;obtain ⟨wq,rfl⟩:∃wq:World,wq=wr:=⟨_,rfl⟩;have E:zc w1 wq:=HX.out;by_cases O:k<m.tasks.length
    ·have e0:(k:Int)<(m.tasks.length:Int):=by omega
     have n3:(0:Int)<=(k:Int):=by omega
     have j7:k<ns.length:=by rw [HS.out.nl];exact O
     obtain ⟨bt,off,u1,u2,rfl,t0,t1,t2,c8,c9⟩:=tasksJAt (HT.out.below (V.out.trans E)) O j7;obtain ⟨z,hz⟩:=EH (m.tasks[k]);obtain ⟨sn,d4⟩:∃s,s=ns[k]:=⟨_,rfl⟩;have d6:=HS.out.t z (by rw [hz];exact DF _);have j9:=HS.out.n sn (by rw [d4];exact DF _);have f6:AJ (m.tasks.take (k+1)) (ns.take (k+1))=AJ (m.tasks.take k) (ns.take k)++taskB z sn:=by rw [hz,d4];exact tasksB_take HS.out.nl k O
     have j4:=tasksB_len (l:=m.tasks.take k) (ns:=ns.take k) (fun x E=>HS.out.t x (List.mem_of_mem_take E)) (fun x E=>HS.out.n x (List.mem_of_mem_take E));have f9:=taskB_len d6 j9;rw [<-hz] at c8 c9;rw [<-d4] at t0;obtain ⟨A1,c1,rfl,-,-⟩:=id c8;obtain ⟨A2,c2,rfl,-,-⟩:=id c9;have i0:=zh c8;have i1:=zh c9;have n4:sn.data.toList.length=sn.size:=by rw [Array.length_toList];rfl
     obtain ⟨y1,g5⟩:∃x,x=wT sn.data.toList:=⟨_,rfl⟩;obtain ⟨y2,g6⟩:∃x,x=wL z.1:=⟨_,rfl⟩;obtain ⟨y3,g7⟩:∃x,x=wL z.2:=⟨_,rfl⟩;have k5:taskB z sn=y1++(y2++y3):=by rw [<-List.append_assoc,g5,g6,g7];rfl
     rw [k5] at f6 f9;have n5:y1.length+y2.length+y3.length<=50000:=by have:=f9;simp only [DM] at this;omega
     have e9:Hid (D1++AJ (m.tasks.take (k+1)) (ns.take (k+1))=(D1++AJ (m.tasks.take k) (ns.take k))++(y1++(y2++y3))):=by (show _=_);rw [f6,List.append_assoc]
     have b0:Hid ((Lib.byteCells (D1++AJ (m.tasks.take k) (ns.take k))).length+(ByteArray.mk (y1++(y2++y3)).toArray).size<=140737488355328):=Cs (by have h1:=e6.out;have h2:(m.tasks.take k).length<=1000:=(by rw [Eu];omega);simp only [DM];omega);have f0:Hid (∀W,zc wq W->zq W):=fun W hW=>HV.out.ext ((V.out.trans E).trans hW)
     have l7:Hid (∀W,zc wq W->Calls Tryz.prog 48 #[.string sn] W fun e w'=>e=.returned (.string ⟨y1.toArray⟩)/\zc W w'):=fun W hW=>by have h:=BB (s:=sn.data.toList) W (f0.out W hW) (by omega);rw [bytes_self,<-g5] at h;exact h
     have h4:Hid (∀W,zc wq W->Calls Tryz.prog 50 #[.slice A1 z.1.length c1] W fun e w'=>e=.returned (.string ⟨y2.toArray⟩)/\zc W w'):=fun W hW=>by rw [g6];exact CC W (f0.out W hW) (i0.out.below hW) (fun x E=>d6.2.2 x (.inl E)) (by omega)
     have h5:Hid (∀W,zc wq W->Calls Tryz.prog 50 #[.slice A2 z.2.length c2] W fun e w'=>e=.returned (.string ⟨y3.toArray⟩)/\zc W w'):=fun W hW=>by rw [g7];exact CC W (f0.out W hW) (i1.out.below hW) (fun x E=>d6.2.2 x (.inr E)) (by omega)
     have a1:∀w,(Op.stringOp .add ⟨y1.toArray⟩ ⟨y2.toArray⟩).run Tryz.prog w=.ok (.string ⟨(y1++y2).toArray⟩) w:=fun w=>Bi (by omega)
     have a2:∀w,(Op.stringOp .add ⟨(y1++y2).toArray⟩ ⟨y3.toArray⟩).run Tryz.prog w=.ok (.string ⟨(y1++(y2++y3)).toArray⟩) w:=fun w=>by rw [<-List.append_assoc];exact Bi (by simp;omega)
     obtain ⟨n1,j5⟩:∃n,n=z.1.length:=⟨_,rfl⟩;obtain ⟨n2,j6⟩:∃n,n=z.2.length:=⟨_,rfl⟩;rw [<-j5] at t1 h4;rw [<-j6] at t2 h5;clear hz d4 d6 j9 f6 j4 f9 c8 c9 n4 g5 g6 g7 k5 n5 j7 j5 j6 i0 i1;go_upto_region 10 with fail;have a7:=zg.new wq #[.string sn,.slice A1 n1 c1,.slice A2 n2 c2] 72 (g:=wq.heap.size) rfl;have o:zc wq (wq.alloc (.cells #[.string sn,.slice A1 n1 c1,.slice A2 n2 c2] 72)):=(zc.refl wq).alloc _;generalize wq.alloc _=w5 at a7 o⊢;generalize wq.heap.size=gt at a7⊢;have q0:=zc.rule (a7.cell (k:=0) rfl);have q1:=zc.rule (a7.cell (k:=1) rfl);have q2:=zc.rule (a7.cell (k:=2) rfl);have a9:=zh o;have hy:zc w5 w5:=zc.refl w5;clear a7 o t0 t1 t2;refine wp_dark (fun Q' hP m8=>?_) (fun c a a' w hd h=>by obtain ⟨t,d⟩:=a;obtain ⟨t',d'⟩:=a';cases hd;exact h);refine AK (S:=(fun W=>zc w5 W)) AC (hy.drew) fun zH=>?_;generalize w5.drew=wd at zH⊢;refine ze (i:=0) (v:=?v1) rfl (by kernel_rfl) (by kernel_rfl) (by kernel_rfl) (by kernel_rfl) (fun _ _ _ h=>hP _ _ _ _ (by rfl) h) (Or.inl ⟨?w1,?y1⟩) zH ?r1
     case w1=>rfl
     case y1=>(intro w a6;go_simp;try with_reducible rfl)
     simp only [zd,DB];refine ze (i:=1) (v:=?v2) rfl (by kernel_rfl) (by kernel_rfl) (by kernel_rfl) (by kernel_rfl) (fun _ _ _ h=>hP _ _ _ _ (by rfl) h) (Or.inl ⟨?w2,?y2⟩) zH ?r2
     case w2=>rfl
     case y2=>(intro w a6;go_simp;try with_reducible rfl)
     simp only [zd,DB];refine ze (i:=3) (v:=?v3) rfl (by kernel_rfl) (by kernel_rfl) (by kernel_rfl) (by kernel_rfl) (fun _ _ _ h=>hP _ _ _ _ (by rfl) h) (Or.inl ⟨?w3,?y3⟩) zH ?r3
     case w3=>rfl
     case y3=>(intro w a6;go_simp;try with_reducible rfl)
     simp only [zd,DB];refine ze (i:=4) (v:=?v4) rfl (by kernel_rfl) (by kernel_rfl) (by kernel_rfl) (by kernel_rfl) (fun _ _ _ h=>hP _ _ _ _ (by rfl) h) (Or.inl ⟨?w4,?y4⟩) zH ?r4
     case w4=>rfl
     case y4=>(intro w a6;go_simp;try with_reducible rfl)
     simp only [zd,DB];refine ze (i:=7) (v:=?v5) rfl (by kernel_rfl) (by kernel_rfl) (by kernel_rfl) (by kernel_rfl) (fun _ _ _ h=>hP _ _ _ _ (by rfl) h) (Or.inl ⟨?w5,?y5⟩) zH ?r5
     case w5=>rfl
     case y5=>(intro w a6;go_simp;try with_reducible rfl)
     simp only [zd,DB];refine ze (i:=8) (v:=?v6) rfl (by kernel_rfl) (by kernel_rfl) (by kernel_rfl) (by kernel_rfl) (fun _ _ _ h=>hP _ _ _ _ (by rfl) h) (Or.inl ⟨?w6,?y6⟩) zH ?r6
     case w6=>rfl
     case y6=>(intro w a6;go_simp;try with_reducible rfl)
     simp only [zd,DB];refine zt (rs:=[2]) (by kernel_rfl) (by simp) ?_;refine zj.cons rfl (fun K hK=>?_) zj.nil;go_simp;go_at_call 48;refine (l7.out _ (a9.out.trans zH)).mono ?_;rintro e w6 ⟨rfl,m6⟩;go_simp;refine EI hK (zH.trans m6) fun zH=>?_;clear hK K;try simp only [zd,DB]
     refine zt (rs:=[5]) (by kernel_rfl) (by simp) ?_;refine zj.cons rfl (fun K hK=>?_) zj.nil;go_simp;go_at_call 50;refine (h4.out _ (a9.out.trans zH)).mono ?_;rintro e w7 ⟨rfl,m7⟩;go_simp;refine EI hK (zH.trans m7) fun zH=>?_;clear hK K;try simp only [zd,DB]
     refine ze (i:=6) (v:=?v7) rfl (by kernel_rfl) (by kernel_rfl) (by kernel_rfl) (by kernel_rfl) (fun _ _ _ h=>hP _ _ _ _ (by rfl) h) (Or.inl ⟨?w7,?y7⟩) zH ?r7
     case w7=>rfl
     case y7=>(intro w a6;go_simp;try with_reducible rfl)
     simp only [zd,DB];refine zt (rs:=[9]) (by kernel_rfl) (by simp) ?_;refine zj.cons rfl (fun K hK=>?_) zj.nil;go_simp;go_at_call 50;refine (h5.out _ (a9.out.trans zH)).mono ?_;rintro e w8 ⟨rfl,c7⟩;go_simp;refine EI hK (zH.trans c7) fun zH=>?_;clear hK K;try simp only [zd,DB]
     refine ze (i:=10) (v:=?v8) rfl (by kernel_rfl) (by kernel_rfl) (by kernel_rfl) (by kernel_rfl) (fun _ _ _ h=>hP _ _ _ _ (by rfl) h) (Or.inl ⟨?w8,?y8⟩) zH ?r8
     case w8=>rfl
     case y8=>(intro w a6;go_simp;try with_reducible rfl)
     simp only [zd,DB];refine zt (rs:=[11]) (by kernel_rfl) (by simp) ?_;refine zj.last rfl (by kernel_rfl) fun K hK=>?_;go_simp;have f1:Hid (zc w1 _):=(E.trans a9.out).trans zH;have l4:=zh (HB.out.old (a9.out.trans zH));go_at_call 32;refine (BK ⟨(y1++(y2++y3)).toArray⟩ l4.out b0.out).mono ?_;rintro e w9 ⟨rfl,i6,i9,-⟩;have l5:Hid (Dx B (Lib.byteCells (D1++AJ (m.tasks.take (k+1)) (ns.take (k+1)))) w9):=bui_app i6 e9.out;have m4:Hid (zc w1 w9):=by have h:=i9;rw [a5.out] at h;exact Below.trans f1.out h
     clear i6 i9;go_simp;refine hK.out _ _ ?_;clear hK K;refine Bh (by kernel_rfl) ?_ _;subst m8;clear hy E q0 q1 q2 a1 a2;go_wp2;go_roundw
     case rel=>exact ⟨k+1,by omega,by go_num,l5,m4⟩
     case measure=>simp [intOf];omega
    ·obtain rfl:k=m.tasks.length:=by omega
     have e4:m.tasks.take m.tasks.length=m.tasks:=DP;have e5:ns.take m.tasks.length=ns:=by rw [<-HS.out.nl];exact DP
     rw [e4,e5] at HB
     have f3:(D1++AJ m.tasks ns).length<=50001000:=by
      have h1:=tasksB_len HS.out.t HS.out.n;have h2:=e6.out;rw [DM];omega
     obtain ⟨D2,b1⟩:∃D,D=D1++AJ m.tasks ns:=⟨_,rfl⟩;rw [<-b1] at HB f3;have o2:=zh f3;have h8:=zh b1;have l8:Hid (Calls Tryz.prog 49 #[.int .i64 (m.free.length:Nat)] wq fun e w'=>e=.returned (.string ⟨(wI (m.free.length:Nat)).toArray⟩)/\zc wq w'):=Di wq (HV.out.ext (V.out.trans E)) ⟨by omega,by omega⟩;have n0:=wI_len (n:=(m.free.length:Int)) ⟨by omega,by omega⟩;have m1:Hid ((Lib.byteCells D2).length+(ByteArray.mk (wI (m.free.length:Nat)).toArray).size<=140737488355328):=Cs (by omega);have f4:(D2++wI (m.free.length:Nat)).length<=50001100:=by rw [DM];omega
     obtain ⟨D3,b2⟩:∃D,D=D2++wI (m.free.length:Nat):=⟨_,rfl⟩;have d7:=zh b2;rw [<-b2] at f4;have h7:=zh f4;clear e4 e5 f3 b1 f4 b2 n0
     go_wp2_with fail
     refine l8.out.mono ?_;rintro e w5 ⟨rfl,o⟩;have Q:=zh (HB.out.old o);have a3:Hid (zc w1 w5):=HX.out.trans o;clear o E
     go_wp2_with fail
     refine (BK ⟨(wI (m.free.length:Nat)).toArray⟩ Q.out m1.out).mono ?_;rintro e w6 ⟨rfl,G,I,-⟩;have U:Hid (Dx B (Lib.byteCells D3) w6):=bui_app G d7.out;have k2:zc w1 w6:=by have h:=I;rw [a5.out] at h;exact Below.trans a3.out h
     have J:=zh k2;clear G I
     go_wp2_with fail
     clear k2;go_loopw [57] (fun i wr=>∃k:Nat,k<=m.free.length/\i=.int .i64 k/\Hid (Dx B (Lib.byteCells (D3++(m.free.take k).flatMap Bm)) wr)/\Hid (zc w1 wr)) (fun i _=>m.free.length - (intOf i).toNat)
     case atStart=>exact ⟨0,DS _,rfl,by rw [List.take_zero,show D3++([]:List (List Bool)).flatMap Bm=D3 from List.append_nil _];exact U,J⟩
     clear U J Q a3
     case round=>
      obtain ⟨k,hk,rfl,HB,HX⟩:=hrel;obtain ⟨wp,rfl⟩:∃wp:World,wp=wr:=⟨_,rfl⟩;have E:zc w1 wp:=HX.out;have i4:Hid (zq wp):=HV.out.ext (V.out.trans E);by_cases O:k<m.free.length
      ·have e0:(k:Int)<(m.free.length:Int):=by omega
       have n3:(0:Int)<=(k:Int):=by omega
       obtain ⟨vs,⟨A',c',e',-,hr⟩,he⟩:=HF.out.below (V.out.trans E);injection e' with e1 e2 e3;subst e1;obtain ⟨bf,off,u,rfl,-,b6,hb⟩:=Bt hr he O O;obtain ⟨x,d5⟩:=EH (m.free[k]);rw [<-d5] at hb;have k4:x.length<=1000:=HS.out.f x (by rw [d5];exact DF _);have h6:=zh (jBits_calls wp i4.out hb (by omega));have e9:Hid (D3++(m.free.take (k+1)).flatMap Bm=(D3++(m.free.take k).flatMap Bm)++Bm x):=by (show _=_);rw [DL O,List.flatMap_append,List.append_assoc,d5];simp
       have f7:=bitsB_len k4;have f8:=bitss_len (l:=m.free.take k) fun y hy=>HS.out.f y (List.mem_of_mem_take hy)
       have b0:Hid ((Lib.byteCells (D3++(m.free.take k).flatMap Bm)).length+(ByteArray.mk (Bm x).toArray).size<=140737488355328):=Cs (by have h1:=h7.out;have h2:(m.free.take k).length<=1000:=(by rw [Eu];omega);simp only [DM];omega);obtain ⟨Ab,cb,rfl,-,-⟩:=hb;obtain ⟨nx,j8⟩:∃n,n=x.length:=⟨_,rfl⟩;rw [<-j8] at b6 h6;clear hr he e2 e3 d5 k4 f7 f8 j8
       go_wp2_with fail
       refine h6.out.mono ?_;rintro e w5 ⟨rfl,o⟩;have Q:=zh (HB.out.old o);have a3:Hid (zc w1 w5):=HX.out.trans o;clear o E b6
       go_wp2_with fail
       refine (BK ⟨(Bm x).toArray⟩ Q.out b0.out).mono ?_;rintro e w6 ⟨rfl,G,I,-⟩;have U:Hid (Dx B (Lib.byteCells (D3++(m.free.take (k+1)).flatMap Bm)) w6):=bui_app G e9.out;have J:Hid (zc w1 w6):=by have h:=I;rw [a5.out] at h;exact Below.trans a3.out h
       clear G I;go_wp2;go_roundw
       case rel=>exact ⟨k+1,by omega,by go_num,U,J⟩
       case measure=>simp [intOf];omega
      ·obtain rfl:k=m.free.length:=by omega
       rw [DP] at HB;have l9:=zh (jBits_calls wp i4.out (HU.out.below (V.out.trans E)) (by have:=HS.out.u;omega));have f7:=bitsB_len HS.out.u;have f8:=bitss_len HS.out.f;have i7:(D3++m.free.flatMap Bm).length<=52001100:=by have h1:=h7.out;rw [DM];omega
       obtain ⟨D4,b3⟩:∃D,D=D3++m.free.flatMap Bm:=⟨_,rfl⟩;rw [<-b3] at HB i7;have b0:Hid ((Lib.byteCells D4).length+(ByteArray.mk (Bm m.up).toArray).size<=140737488355328):=Cs (by omega);have h9:Hid ((D4++Bm m.up).length<=1000000000):=by (show _<=_);rw [DM];omega
       have d8:Hid (D4++Bm m.up=AG m ns):=by
        (show _=_)
        rw [b3,d7.out,h8.out,m0.out,i2.out];unfold AG;simp [List.append_assoc]
       clear f7 f8 i7 b3
       go_wp2_with fail
       refine l9.out.mono ?_;rintro e w5 ⟨rfl,o⟩;have Q:=zh (HB.out.old o);have a3:Hid (zc w1 w5):=HX.out.trans o;clear o E
       go_wp2_with fail
       refine (BK ⟨(Bm m.up).toArray⟩ Q.out b0.out).mono ?_;rintro e w6 ⟨rfl,G,I,-⟩;have U:Hid (Dx B (Lib.byteCells (AG m ns)) w6):=bui_app G d8.out.symm;have J:Hid (zc w1 w6):=by have h:=I;rw [a5.out] at h;exact Below.trans a3.out h
       clear G I;rw [d8.out] at h9;have l6:Hid (B<=w6.heap.size):=by (show _<=_);rw [a5.out];exact J.out.size
       go_wp2_with fail
       refine (CY U.out l6.out).mono ?_;rintro e w7 ⟨rfl,i8⟩;have m3:Hid (zc w1 w7):=by have h:=i8;rw [a5.out] at h;exact Below.trans J.out h
       clear i8
       go_wp2_with fail
       refine (of_l (AG m ns) w7 h9.out).mono ?_;rintro e w8 ⟨rfl,c7⟩;have f1:Hid (zc w w8):=(V.out.trans m3.out).trans c7;clear c7
       go_wp2_with fail
       go_ret;exact ⟨rfl,f1.out⟩
end
section
open Go.RowKit Go.Shelf
attribute [local go_sem ↓] Go.wp_at_zero Go.wp_at_succ
attribute [local go_sem] Oper.semAt_some
theorem AD.apartJ {b:Nat} (h:AD w ok size A n xs) (G:0<size) (E:∀off,w.cell? ⟨b,off,none⟩=none):AD w (fun k=>ok k/\k≠b) size A n xs:=by
 refine ⟨h.1,fun o=>?_⟩;obtain ⟨k,off,e,D,d⟩:=h.2 o;have h0:0<xs.length:=by rw [h.1];exact Nat.mul_pos o G
 refine ⟨k,off,e,⟨D,?_⟩,d⟩;rintro rfl;have h1:=d 0 _ (DC h0);rw [E] at h1;cases h1
theorem zl.apartJ {w:World} {ok:Nat->Prop} {v:Value} {l:List Int} {b:Nat} (h:zl w ok v l) (o:∀off,w.cell? ⟨b,off,none⟩=none):zl w (fun k=>ok k/\k≠b) v l:=by
 obtain ⟨A,c,e,d,D⟩:=h;exact ⟨A,c,e,d,D.apartJ (by decide) o⟩
theorem jStates_calls {R:Nat->Prop} {cf cu ct:Nat} {Af Au At:Option Addr} (id s:List UInt8) (w:World) (o:zq w) (hm:Ad w R (.agg (mzc m Af cf Au cu At ct)) m):
  Calls Tryz.prog 54 #[.agg #[.int .i64 m.w,.int .i64 m.h,.int .i64 m.l,.slice Af m.free.length cf,.slice Au m.up.length cu,.slice At m.tasks.length ct],.string ⟨s.toArray⟩,.string ⟨id.toArray⟩] w fun e w'=>∃gi gs gm,e=.returned (.func (.func 85) #[] #[.pointer (some ⟨gi,0,none⟩),.pointer (some ⟨gs,0,none⟩),.pointer (some ⟨gm,0,none⟩)])/\zc w w'/\w.heap.size<=gi/\w.heap.size<=gs/\w.heap.size<=gm/\JCtx w' gi gs gm id s (mzc m Af cf Au cu At ct) m R:=by
 have D:=zh hm;have E:=zh o;clear hm o
 go_enter Tryz.func54,Tryz.ntmps54
 go_wp2_with fail
 go_ret;have h1:zc w (w.alloc (.cells (mzc m Af cf Au cu At ct) 29)):=(zc.refl w).alloc _;have d:=(h1.alloc (.cells #[.string ⟨s.toArray⟩] 9)).alloc (.cells #[.string ⟨id.toArray⟩] 9);refine ⟨_,_,_,rfl,d,by omega,by omega,by omega,?_,?_,?_,D.out.below d,E.out.ext d⟩
 ·exact zg.new _ _ _ (by simp)
 ·exact (zg.new (w.alloc (.cells (mzc m Af cf Au cu At ct) 29)) #[.string ⟨s.toArray⟩] 9 (by simp)).alloc _
 ·exact ((zg.new w (mzc m Af cf Au cu At ct) 29 rfl).alloc _).alloc _
def OpenPost (w:World) (m:MZ) (id s:List UInt8) (e:Ending) (w':World):Prop:=
 ∃vc x er,e=.returned (.tuple #[.agg (jsc vc x),.int .i64 er])/\zc w w'/\zl w' (fun b=>w.heap.size<=b) vc x.ch/\(zE m (zv id) id s=none->er=4)/\(∀y,zE m (zv id) id s=some y->er=0/\x=y)
def OpI (wp:World) (g4:Nat) (L:List JS) (gx k:Nat) (W:World):Prop:=
 zk (fun b=>b=g4) wp W/\∃a b c d,zg W g4 77 #[a,b,c,d]/\∀j,k=j+1->∃y vc,L[j]?=some y/\#[a,b,c,d]=jsc vc y/\zl W (fun b=>wp.heap.size+2<=b/\b≠gx) vc y.ch
theorem Ds {s:List UInt8} (w:World) (hv:zq w) (hm:BD w ok v m ns) (hs:Small m ns) (hl:Lens m) (hc:BS m=0) (g7:s.length<=40000000):
  Calls Tryz.prog 30 #[v,.string ⟨s.toArray⟩] w (OpenPost w m (Dl (AG m ns)) s):=by
 refine (callsIn_wide (n:=6)).1 ?_;have HM:=zh hm;have HV:=zh hv;have HS:=zh hs;have HL:=zh hl;have HC:=zh hc;have j2:=zh g7;obtain ⟨f,u,t,rfl,⟨_,⟨Af,cf,rfl,-,-⟩,-⟩,⟨Au,cu,rfl,-,-⟩,⟨-,_,⟨At,ct,rfl,-,-⟩,-⟩⟩:=hm;obtain ⟨id,hid⟩:∃x,x=Dl (AG m ns):=⟨_,rfl⟩;rw [<-hid];have i7:=zh hid;have b1:id.length=8:=by rw [hid];exact Bd _
 have e8:=zh b1;clear hv hs hl hc g7 hid b1;refine callsIn_of_wp_marks Tryz.func30 rfl trivial ?_ rfl;simp only [Tryz.ntmps30,List.size_toArray,EF,EG,Nat.reduceAdd,Nat.reduceSub,Array.replicate_succ,Array.replicate_zero,List.push_toArray,List.append_toArray,List.nil_append,List.cons_append]
 gi_upto_region 1 with fail
 have a4:=zg.new w #[.int .i64 m.w,.int .i64 m.h,.int .i64 m.l,.slice Af m.free.length cf,.slice Au m.up.length cu,.slice At m.tasks.length ct] 29 (g:=w.heap.size) rfl;have b7:zc w (w.alloc (.cells #[.int .i64 m.w,.int .i64 m.h,.int .i64 m.l,.slice Af m.free.length cf,.slice Au m.up.length cu,.slice At m.tasks.length ct] 29)):=(zc.refl w).alloc _;have a8:(w.alloc (.cells #[.int .i64 m.w,.int .i64 m.h,.int .i64 m.l,.slice Af m.free.length cf,.slice Au m.up.length cu,.slice At m.tasks.length ct] 29)).heap.size=w.heap.size+1:=by simp
 generalize w.alloc _=w1 at a4 b7 a8⊢;have Q:=zg.new w1 #[.slice none 0 0,.int .i64 0,.int .i64 0,.string ⟨#[]⟩] 77 (g:=w1.heap.size) rfl;have a5:zc w1 (w1.alloc (.cells #[.slice none 0 0,.int .i64 0,.int .i64 0,.string ⟨#[]⟩] 77)):=(zc.refl w1).alloc _;have d7:(w1.alloc (.cells #[.slice none 0 0,.int .i64 0,.int .i64 0,.string ⟨#[]⟩] 77)).heap.size=w.heap.size+2:=by simp [a8]
 generalize w1.alloc _=w2 at Q a5 d7⊢;rw [a8] at Q;obtain ⟨gm,c7⟩:∃g,g=w.heap.size:=⟨_,rfl⟩;obtain ⟨g4,c6⟩:∃g,g=w.heap.size+1:=⟨_,rfl⟩;rw [<-c6] at Q⊢;rw [<-c7] at a4⊢;have HG:Hid (gm=w.heap.size/\g4=w.heap.size+1/\w2.heap.size=w.heap.size+2):=⟨c7,c6,d7⟩;have i3:=zh (a4.ext a5);have b2:=zh Q;have E:Hid (zc w w2):=b7.trans a5;obtain ⟨r0,r1,r2,r3,r4,r5⟩:=zw i3.out;have r0:=zc.rule r0;have r1:=zc.rule r1;have r2:=zc.rule r2;have r3:=zc.rule r3;have r4:=zc.rule r4;have r5:=zc.rule r5;obtain ⟨k0,k1,k2,k3⟩:=zJ b2.out;have k0:=zc.rule k0;have k1:=zc.rule k1;have k2:=zc.rule k2;have k3:=zc.rule k3;have m4:zc w2 w2:=zc.refl w2;clear a4 b7 a8 Q a5 d7 c7 c6;have e2:Hid (Calls Tryz.prog 27 #[.agg #[.int .i64 m.w,.int .i64 m.h,.int .i64 m.l,.slice Af m.free.length cf,.slice Au m.up.length cu,.slice At m.tasks.length ct]] w2 fun e w'=>e=.returned (.int .i64 0)/\zc w2 w'):=by have h:=By w2 (HM.out.maze.below E.out) HL.out;rw [HC.out] at h;exact h
 gi_wp2_with fail
 refine ⟨trivial,?_⟩;refine (callsIn_wide.2 e2.out).mono ?_;rintro e w3 ⟨rfl,f9⟩;have d4:zc w2 w3:=f9;have HD:Hid (∀W,zc w2 W->Calls Tryz.prog 29 #[.agg #[.int .i64 m.w,.int .i64 m.h,.int .i64 m.l,.slice Af m.free.length cf,.slice Au m.up.length cu,.slice At m.tasks.length ct]] W fun e w'=>e=.returned (.string ⟨id.toArray⟩)/\zc W w'):=fun W h=>by have:=Dk W (HV.out.ext (E.out.trans h)) (HM.out.below (E.out.trans h)) HS.out;rw [<-i7.out] at this;exact this
 clear f9 e2
 gi_wp2_with fail
 refine ⟨trivial,?_⟩;refine (callsIn_wide.2 (HD.out _ d4)).mono ?_;rintro e w4 ⟨rfl,g0⟩;have d5:zc w2 w4:=d4.trans g0;clear g0 HD d4;have e6:Hid (∀W,zc w2 W->Calls Tryz.prog 28 #[.string ⟨id.toArray⟩] W fun e w'=>e=.returned (.string ⟨(zv id).toArray⟩)/\zc W w'):=fun W h=>CL W (HV.out.ext (E.out.trans h)) (by have:=e8.out;omega)
 gi_wp2_with fail
 refine ⟨trivial,?_⟩;refine (callsIn_wide.2 (e6.out _ d5)).mono ?_;rintro e w5 ⟨rfl,g1⟩;have J:zc w2 w5:=d5.trans g1;clear g1 e6 d5;have O:=zh (pre_calls s (zv id) w5);by_cases hp:zv id <+: s
 ·have U:(zv id).isPrefixOf s=true:=List.isPrefixOf_iff_prefix.2 hp;rw [U] at O;have HP:=zh hp;have f1:=zh (jStates_calls (R:=fun b=>b<w.heap.size) id s w5 (HV.out.ext (E.out.trans J)) (((HM.out.maze.bound).weaken fun b G=>G.2).below (E.out.trans J)));clear hp U
  gi_wp2_with fail
  refine ⟨trivial,?_⟩;refine (callsIn_wide.2 O.out).mono ?_;rintro e wb ⟨rfl,rfl⟩
  gi_wp2_with fail
  refine ⟨trivial,?_⟩;refine (callsIn_wide.2 f1.out).mono ?_;rintro e wp ⟨gi,gs,gq,rfl,g3,j7,k4,j9,g5⟩;have d6:zc w2 wp:=J.trans g3;have f3:=zh d6;have i4:=zh (b2.out.ext d6);have j4:=J.size;have I:Hid (w2.heap.size<=wp.heap.size):=d6.size
  have e5:=zh (fun n=>jStates_gives (Z:=fun b=>b=g4) wp g5 HL.out HC.out e8.out j2.out HP.out.length_le (fun b G=>by have h1:=HG.out;have h2:=I.out;exact ⟨by omega,by omega⟩) (by have h1:=HG.out;exact ⟨by omega,by omega,by omega⟩)
   (fun b G=>by have h1:=HG.out;have h2:=I.out;exact ⟨by omega,var_new HV.out (by omega)⟩) n)
  obtain ⟨L,hL⟩:=EH (allJ m s s.length (j0 id));rw [<-hL] at e5;have e9:=zh hL;clear g3 j7 k4 j9 g5 J f1 O j4 hL k0 k1 k2 k3
  gi_wp2_with fail
  refine wpIn_loopJ (gf:=85) (lb:=#[.pointer (some ⟨gi,0,none⟩),.pointer (some ⟨gs,0,none⟩),.pointer (some ⟨gq,0,none⟩)]) rfl (enters_of Tryz.func85 (by kernel_rfl) rfl) (Z:=fun b=>b=g4) (fun b G=>by have h1:=HG.out;have h2:=I.out;omega) (e5.out _) (zc.refl wp) (fun _=>rfl)
   (OpI wp g4 L) ?hI (fun gx k x a W'=>∃y vc g8 u0 u1 u2 u3 u5 u6 u7 u9 u10 u11 u12 u13 u14 u15 u16 u17 u18 u19 u20 u21 u22 u23 u24 u25 u26 u27 u28 u29,L[k]?=some y/\x=.agg (jsc vc y)/\a={ tmps:=#[u0,u1,u2,u3,.pointer (some ⟨g4,0,none⟩),u5,u6,u7,.pointer (some ⟨g8,0,none⟩),u9,u10,u11,u12,u13,u14,u15,u16,u17,u18,u19,u20,u21,u22,u23,u24,u25,u26,u27,u28,u29],defers:=[] }/\zg W' g8 77 (jsc vc y)/\wp.heap.size<=g8/\zl W' (fun b=>wp.heap.size+2<=b/\b≠gx) vc y.ch) ?hAx ?hI0 ?hassign ?hbody ?hdone
  case hI=>
   rintro gx k A B c8 ⟨h1,a,b,c,d,h2,h3⟩ b4;have h4:=HG.out;have h5:=I.out;refine ⟨zk.trans h1 b4 (fun k hk hX=>by omega),a,b,c,d,b4.blk h2 (by omega),fun j hj=>?_⟩;obtain ⟨y,vc,h6,h7,h8⟩:=h3 j hj;exact ⟨y,vc,h6,h7,h8.keep (b4.same fun b G e=>by omega)⟩
  case hAx=>
   rintro gx k x a A l ⟨y,vc,g8,u0,u1,u2,u3,u5,u6,u7,u9,u10,u11,u12,u13,u14,u15,u16,u17,u18,u19,u20,u21,u22,u23,u24,u25,u26,u27,u28,u29,h1,h2,h3,h4,h5,h6⟩ h7 h8 ⟨r,hr⟩ o;have k7:∀off,A.cell? ⟨l,off,none⟩=none:=fun off=>by unfold World.cell?;simp only [hr]
   have j8:g8≠l:=by
    rintro rfl;unfold zg at h4;rw [hr] at h4;cases h4
   refine ⟨y,vc,g8,u0,u1,u2,u3,u5,u6,u7,u9,u10,u11,u12,u13,u14,u15,u16,u17,u18,u19,u20,u21,u22,u23,u24,u25,u26,u27,u28,u29,h1,h2,h3,(World.putObj_heap_other j8).trans h4,h5,?_⟩;exact ((h6.apartJ k7).keep (fun b G _=>World.putObj_heap_other G.2)).weaken fun b G=>G.1
  case hI0=>
   intro gx W hE;exact ⟨zk.of_ext hE,_,_,_,_,i4.out.ext hE,fun j hj=>by omega⟩
  case hassign=>
   rintro l gx k x W0 K c8 k6 - ⟨y,vc,a6,rfl,hi⟩ hs hK;obtain ⟨Av,cv,rfl,-,-⟩:=_root_.id hi;rw [fold_one];simp only [jsc];have i8:=zh hi;clear hi
   gi_wp2_with fail
   have hE:=(zc.refl W0).alloc (.cells (jsc (.slice Av y.ch.length cv) y) 77);exact hK _ _ hE ⟨y,.slice Av y.ch.length cv,_,_,_,_,_,_,_,_,_,_,_,_,_,_,_,_,_,_,_,_,_,_,_,_,_,_,_,_,_,a6,rfl,rfl,zg.new _ _ _ rfl,Nat.le_of_lt hs,i8.out.below hE⟩
  case hbody=>
   rintro l gx k x a W0 c8 k6 ⟨f4,a0,b0,c0,d0,a3,-⟩ ⟨y,vc,g8,u0,u1,u2,u3,u5,u6,u7,u9,u10,u11,u12,u13,u14,u15,u16,u17,u18,u19,u20,u21,u22,u23,u24,u25,u26,u27,u28,u29,a6,rfl,rfl,b5,j6,b8⟩ hs ⟨rl,k8⟩;obtain ⟨Av,cv,rfl,-,-⟩:=_root_.id b8;simp only [jsc] at b5;obtain ⟨p0,p1,p2,p3⟩:=zJ b5;obtain ⟨q0,q1,q2,q3⟩:=zJ a3;have fz:∀j,W0.frozen? ⟨g4,j,none⟩=false:=fun j=>a3.frozen j
   have i2:=zh a3;have i5:=zh f4;have i6:=zh b8;have i9:=zh a6;clear b5 a3 f4 b8 a6 k8 hs j6
   gi_wp2_with fail
   have h1:=HG.out;have h2:=I.out;have hC:zk (fun b=>b=g4) W0 ((((W0.setCell ⟨g4,0,none⟩ (.slice Av y.ch.length cv)).setCell ⟨g4,1,none⟩ (.int .i64 y.steps)).setCell ⟨g4,2,none⟩ (.int .i64 y.fin)).setCell ⟨g4,3,none⟩ (.string ⟨y.sg.toArray⟩)):=((((zk.refl (fun b=>b=g4) W0).set g4 0 _ rfl).set g4 1 _ rfl).set g4 2 _ rfl).set g4 3 _ rfl;refine ⟨hC,i5.out.tr hC,_,_,_,_,(((i2.out.set (k:=0) _).set (k:=1) _).set (k:=2) _).set (k:=3) _,fun j hj=>?_⟩;obtain rfl:k=j:=by omega
   exact ⟨y,.slice Av y.ch.length cv,i9.out,rfl,i6.out.keep (hC.same fun b G e=>by omega)⟩
  case hdone=>
   rintro D gx W3 f6 f7 c8 ⟨f5,a0,b0,c0,d0,M,V⟩ b9;have g6:0<L.length:=by rw [e9.out];exact allJ_pos _ _ _ _
   obtain ⟨y,vc,hy,he,hi⟩:=V (L.length - 1) (by omega)
   have g9:y=endJ m s (j0 id):=by
    have h:=allJ_last m s s.length (j0 id);rw [<-e9.out,hy] at h;injection h
   obtain ⟨Av,cv,rfl,-,-⟩:=_root_.id hi;rw [he] at M;simp only [jsc] at M;obtain ⟨q0,q1,q2,q3⟩:=zJ M;have fz:∀j,W3.frozen? ⟨g4,j,none⟩=false:=fun j=>M.frozen j
   have h1:=HG.out;have h2:=I.out;have hC:zk (fun b=>b=g4) wp ((((W3.setCell ⟨g4,0,none⟩ (.slice Av y.ch.length cv)).setCell ⟨g4,1,none⟩ (.int .i64 y.steps)).setCell ⟨g4,2,none⟩ (.int .i64 y.fin)).setCell ⟨g4,3,none⟩ (.string ⟨y.sg.toArray⟩)):=(((f5.set g4 0 _ rfl).set g4 1 _ rfl).set g4 2 _ rfl).set g4 3 _ rfl;have hB:zg ((((W3.setCell ⟨g4,0,none⟩ (.slice Av y.ch.length cv)).setCell ⟨g4,1,none⟩ (.int .i64 y.steps)).setCell ⟨g4,2,none⟩ (.int .i64 y.fin)).setCell ⟨g4,3,none⟩ (.string ⟨y.sg.toArray⟩)) g4 77 #[.slice Av y.ch.length cv,.int .i64 y.steps,.int .i64 y.fin,.string ⟨y.sg.toArray⟩]:=(((M.set (k:=0) _).set (k:=1) _).set (k:=2) _).set (k:=3) _;have b6:zk (fun b=>b=g4) W3 ((((W3.setCell ⟨g4,0,none⟩ (.slice Av y.ch.length cv)).setCell ⟨g4,1,none⟩ (.int .i64 y.steps)).setCell ⟨g4,2,none⟩ (.int .i64 y.fin)).setCell ⟨g4,3,none⟩ (.string ⟨y.sg.toArray⟩)):=((((zk.refl (fun b=>b=g4) W3).set g4 0 _ rfl).set g4 1 _ rfl).set g4 2 _ rfl).set g4 3 _ rfl;have e1:=zh hC;have e0:=zh hB;have e7:=zh (hi.keep (b6.same fun b G e=>by omega));have e4:Hid (((((W3.setCell ⟨g4,0,none⟩ (.slice Av y.ch.length cv)).setCell ⟨g4,1,none⟩ (.int .i64 y.steps)).setCell ⟨g4,2,none⟩ (.int .i64 y.fin)).setCell ⟨g4,3,none⟩ (.string ⟨y.sg.toArray⟩)).heap[D]?=some (.deferred (some []))):=(b6.block D (za b9) (by omega)).trans b9;have j3:=zh g9;have e3:Hid (wp.heap.size<=D/\D<=wp.heap.size):=⟨f6,f7⟩;clear hC hB b6 g9 f5 M V b9 hy he hi g6 h1 h2 f6 f7
   gi_wp2_with fail
   generalize ((((W3.setCell ⟨g4,0,none⟩ (.slice Av y.ch.length cv)).setCell ⟨g4,1,none⟩ (.int .i64 y.steps)).setCell ⟨g4,2,none⟩ (.int .i64 y.fin)).setCell ⟨g4,3,none⟩ (.string ⟨y.sg.toArray⟩))=wf at e1 e0 e7 e4⊢;refine ⟨by simp,.inl ⟨_,_,rfl,run_takeDeferred e4.out,?_⟩⟩;have h1:=HG.out;have h2:=I.out;have h3:=e3.out;have hS:∀b,b≠D->(wf.putObj D (.deferred none)).heap[b]?=wf.heap[b]?:=fun b G=>World.putObj_heap_other G
   obtain ⟨y0,y1,y2,y3⟩:=zJ (show zg (wf.putObj D (.deferred none)) g4 _ _ from (hS g4 (by omega)).trans e0.out);refine ⟨.tuple #[.agg #[.slice Av y.ch.length cv,.int .i64 y.steps,.int .i64 y.fin,.string ⟨y.sg.toArray⟩],.int .i64 0],by simp [results,Tryz.results30,go_sem,y0,y1,y2,y3],?_⟩;refine ⟨.slice Av y.ch.length cv,y,0,rfl,?_,?_,fun h=>?_,fun z hz=>⟨rfl,?_⟩⟩
   ·have h4:=(e1.out.grown (grownBy_putObj' _ D (.deferred none)) (fun k e hk=>absurd hk (by have e':D=k:=Option.some.inj e;omega)));exact Below.trans (E.out.trans f3.out) (h4.below (E.out.trans f3.out).size (fun b G=>by omega))
   ·exact (e7.out.keep (fun b G _=>hS b (by omega))).weaken fun b G=>by omega
   ·unfold zE at h;rw [if_pos HP.out] at h;cases h
   ·unfold zE at hz;rw [if_pos HP.out] at hz;injection hz with hz;rw [j3.out];exact hz
 ·have U:(zv id).isPrefixOf s=false:=by
   cases h:(zv id).isPrefixOf s with
   | false=>rfl
   | true=>exact absurd (List.isPrefixOf_iff_prefix.1 h) hp
  rw [U] at O;have HP:=zh hp;have d9:=zh (b2.out.ext J);have fz:∀j,w5.frozen? ⟨g4,j,none⟩=false:=fun j=>d9.out.frozen j
  have f2:Hid (zc w w5):=E.out.trans J;clear hp U
  gi_wp2_with fail
  refine ⟨trivial,?_⟩;refine (callsIn_wide.2 O.out).mono ?_;rintro e wb ⟨rfl,rfl⟩
  gi_wp2_with fail
  have h1:=HG.out;have hC:zk (fun b=>b=g4) w5 ((((w5.setCell ⟨g4,0,none⟩ (.slice none 0 0)).setCell ⟨g4,1,none⟩ (.int .i64 0)).setCell ⟨g4,2,none⟩ (.int .i64 0)).setCell ⟨g4,3,none⟩ (.string ⟨#[]⟩)):=((((zk.refl (fun b=>b=g4) w5).set g4 0 _ rfl).set g4 1 _ rfl).set g4 2 _ rfl).set g4 3 _ rfl;have hB:zg ((((w5.setCell ⟨g4,0,none⟩ (.slice none 0 0)).setCell ⟨g4,1,none⟩ (.int .i64 0)).setCell ⟨g4,2,none⟩ (.int .i64 0)).setCell ⟨g4,3,none⟩ (.string ⟨#[]⟩)) g4 77 #[.slice none 0 0,.int .i64 0,.int .i64 0,.string ⟨#[]⟩]:=(((d9.out.set (k:=0) _).set (k:=1) _).set (k:=2) _).set (k:=3) _;obtain ⟨y0,y1,y2,y3⟩:=zJ hB;refine ⟨.tuple #[.agg #[.slice none 0 0,.int .i64 0,.int .i64 0,.string ⟨#[]⟩],.int .i64 4],by simp [results,Tryz.results30,go_sem,y0,y1,y2,y3],?_⟩;refine ⟨_,⟨[],0,0,[]⟩,4,rfl,?_,zl.nil _ _,fun _=>rfl,fun z hz=>?_⟩
  ·exact Below.trans f2.out (hC.below f2.out.size (fun b G=>by omega))
  ·unfold zE at hz;rw [if_neg HP.out] at hz;cases hz
end
section
open Go.RowKit Go.Shelf
attribute [local go_sem ↓] Go.wp_at_zero Go.wp_at_succ
theorem own_next {t u ty e:TypeId} {i:TypeInfo} (ht:P.underlying t=some (.slice e)) (hu:P.underlying u=some .string) (Q:P.info? e=some i) (hz:i.zero=some (.int .u8 0)) (d:i.size=1) (I:i.bytes=1)
  {v':Value} (o:w.ownsRowF base e 1 v n xs) (s:ByteArray) (G:n+s.size<=maxLen) (D:n+s.size<=140737488355328) (U:(Builtin.append_ #[t,u] ty #[v,.string s]).run P w=.ok v' w'):
  v'.ownBlock=v.ownBlock\/∀g,v'.ownBlock=some g->w.heap.size<=g:=by
 rcases o.2 with ⟨rfl,rfl⟩ | ⟨g,cap,cur,fz,rfl,a5,O,hfz,a8,a6,M,V⟩
 ·obtain ⟨v2,w2,h1,h2,-,-⟩:=Lib.run_append_own_string (P:=P) w w.heap.size t u ty e i ht hu Q hz d I (.slice none 0 0) 0 xs ⟨o.1,.inl ⟨rfl,rfl⟩⟩ s G D (DE _);rw [U] at h1;injection h1 with e1 e2;subst e1;exact .inr fun g O=>(World.ownsRow.lt h2 g O).1
 ·have J:n+s.size<=9223372036854775807:=by simp only [maxLen] at G;omega
  have a1:xs.length=n:=by simpa using o.1
  by_cases E:n+s.size<=cap
  ·have a2:cur.size=cap:=by simpa using M
   have h1:=Lib.run_append_room_stringF (P:=P) w t u ty e i ht hu Q d g n cap cur fz O (by simpa using hfz) s E (by omega);rw [U] at h1;injection h1 with e1 e2;subst e1;exact .inl rfl
  ·have h1:=Lib.run_append_grow_string (P:=P) w t u ty e i (.int .u8 0) ht hu Q hz ⟨g,0,none⟩ n cap xs (by rw [d];simpa using a1) (o.cells (g:=g) rfl) s (by omega) (by omega) (by rw [I];exact growslice_fits (by omega) (by omega));rw [U] at h1;injection h1 with e1 e2;subst e1;refine .inr fun k hk=>?_
   simp [Value.ownBlock] at hk;omega
theorem ownF_chg {e:TypeId} (h:w.ownsRowF base e size v n xs) (o:zk X w w') (D:∀g,v.ownBlock=some g->¬ X g):w'.ownsRowF base e size v n xs:=by
 refine ⟨h.1,?_⟩;rcases h.2 with G | ⟨g,cap,cur,fz,rfl,E,d,rest⟩
 ·exact .inl G
 ·exact .inr ⟨g,cap,cur,fz,rfl,E,(o.block g (Ci d) (D g rfl)).trans d,rest⟩
def BuiK (K:Nat->Prop) (B:Nat) (bs:List Value) (w:World):Prop:=
 K B/\∃p v,(p=.pointer none\/p=.pointer (some ⟨B,0,none⟩))/\w.heap[B]?=some (.cells #[p,v] 83 (0,0))/\w.ownsRowF B 5 1 v bs.length bs/\v.ownBlock≠some B/\∀g,v.ownBlock=some g->K g
theorem BuiK.bui (h:BuiK K B bs w):Dx B bs w:=by
 obtain ⟨-,p,v,rfl | rfl,h1,d,o,-⟩:=h
 ·exact .inl ⟨DE _,v,h1,d,o⟩
 ·exact .inr ⟨DE _,v,h1,d,o⟩
theorem BuiK.chg (h:BuiK K B bs w) (o:zk X w w') (E:∀k,K k->¬ X k):BuiK K B bs w':=by
 obtain ⟨D,p,v,hp,h1,G,I,d⟩:=h;exact ⟨D,p,v,hp,(o.block B (Ci h1) (E B D)).trans h1,ownF_chg G o (fun g J=>E g (d g J)),I,d⟩
theorem BuiK.lt (h:BuiK K B bs w):B<w.heap.size:=by
 obtain ⟨-,p,v,-,h1,-⟩:=h;exact Ci h1
theorem BuiK.wide {K':Nat->Prop} (h:BuiK K B bs w) (d:∀k,K k->K' k):BuiK K' B bs w:=by
 obtain ⟨h0,p,v,hp,h1,o,D,E⟩:=h;exact ⟨d _ h0,p,v,hp,h1,o,D,fun g G=>d _ (E g G)⟩
theorem BuiK.new (w:World):BuiK (fun b=>b=w.heap.size) w.heap.size [] (w.alloc (.cells #[.pointer none,.slice none 0 0] 83)):=
 ⟨rfl,_,_,.inl rfl,Ep w _,World.ownsRowF_nil _ _ _ _,by simp [Value.ownBlock],fun g d=>by simp [Value.ownBlock] at d⟩
theorem wpApp_K {ops:Array Oper} {rest:List Oper} {o:Oper} {a:Act} {Q:Exit->Act->World->Prop} (M:o.guard=none) (sl x:Operand) (t u:TypeId)
  (ho:o.op=.call { callee:=.builtin .append,args:=#[sl,x],argTypes:=#[t,u] })
  (base:Nat) (e:TypeId) (i:TypeInfo) (ht:P.underlying t=some (.slice e)) (V:P.underlying u=some .string) (O:P.info? e=some i) (hz:i.zero=some (.int .u8 0)) (D:i.size=1) (J:i.bytes=1)
  (v:Value) (n:Nat) (xs:List Value) (hs:a.eval sl=v) (E:w.ownsRowF base e 1 v n xs) (s:ByteArray) (hx:a.eval x=.string s)
  (I:n+s.size<=maxLen) (d:n+s.size<=140737488355328) (G:base<=w.heap.size)
  (h:∀v' w',w'.ownsRowF base e 1 v' (n+s.size) (xs++Lib.strCells s)->w.grownBy w' v.ownBlock->(v'.ownBlock=v.ownBlock\/∀g,v'.ownBlock=some g->w.heap.size<=g)->wpList P ops Q rest (a.put o.dst v') w'):wpList P ops Q (o :: rest) a w:=by
 obtain ⟨v',w',U,h2,h3,-⟩:=Lib.run_append_own_stringF (P:=P) w base t u o.type e i ht V O hz D J v n xs E s I d G;have hn:=own_next ht V O hz D J E s I d U;refine wpList_plain M fun K hK=>?_
 unfold Oper.wp execOp;simp only [ho,resolve,invoke,builtin,Sem.run_bind,Sem.run_pure,Result.andThen_ok,List.map_toArray,List.map_cons,List.map_nil,hs,hx,U];exact hK _ _ (h v' w' h2 h3 hn)
theorem cc_K (h:BuiK K B bs w):Calls Tryz.prog 61 #[.pointer (some ⟨B,0,none⟩)] w fun e w'=>e=.returned (.tuple #[])/\zk K w w'/\w'.heap.size=w.heap.size/\
  ∃v,w'.heap[B]?=some (.cells #[.pointer (some ⟨B,0,none⟩),v] 83 (0,0))/\w'.ownsRowF B 5 1 v bs.length bs/\v.ownBlock≠some B/\∀g,v.ownBlock=some g->K g:=by
 obtain ⟨I,p,v,rfl | rfl,h1,D,d,E⟩:=h
 ·have o:Lib.BuilderAtF 83 5 B B (.pointer none) bs w:=⟨DE _,v,h1,D,d⟩;refine (ccNew B w o.cell0 o.shape o.frozen0).mono ?_;rintro e w' ⟨rfl,rfl⟩;have G:zk (fun b=>b=B) w (w.setCell ⟨B,0,none⟩ (.pointer (some ⟨B,0,none⟩))):=(zk.refl (fun b=>b=B) w).set B 0 _ rfl;exact ⟨rfl,G.wide fun k e=>e ▸ I,by simp [World.setCell],v,(show zg w B 83 #[.pointer none,v] from h1).set (k:=0) _,ownF_chg D G (fun g J e=>d (by rw [J,e])),d,E⟩
 ·have o:Lib.BuilderAtF 83 5 B B (.pointer (some ⟨B,0,none⟩)) bs w:=⟨DE _,v,h1,D,d⟩;refine (ccUsed B w o.cell0).mono ?_;rintro e w' ⟨rfl,rfl⟩;exact ⟨rfl,zk.refl _ _,rfl,v,h1,D,d,E⟩
theorem wString_K (s:ByteArray) (h:BuiK K B bs w) (hl:bs.length+s.size<=140737488355328):
  Calls Tryz.prog 32 #[.pointer (some ⟨B,0,none⟩),.string s] w fun e w'=>e=.returned (.tuple #[.int .i64 s.size,.nilIface])/\zk K w w'/\BuiK (fun b=>K b\/(w.heap.size<=b/\b<w'.heap.size)) B (bs++Lib.strCells s) w':=by
 obtain ⟨i0,hi,a5,a6,a7⟩:=info_parts sExt.infoByte;have M:=h.1;have H:=zh h;clear h
 go_enter Tryz.func32,Tryz.ntmps32
 go_wp2_with fail
 refine (cc_K H.out).mono ?_;rintro e w1 ⟨rfl,J,a0,v,G,V,Q,I⟩;have c1:w1.cell? ⟨B,1,none⟩=some v:=by rw [Lib.cell_of_heap G];rfl
 have a3:=Ci G;have a2:=zh a0;clear a0
 go_wp2_with (at_builtin;refine wpApp_K rfl _ _ 51 9 rfl B 5 i0 Tryz.underlying51 Tryz.underlying9 hi a5 a6 a7 _ _ _ rfl V s rfl ?c3 ?c4 ?c5 ?_)
 case c3=>unfold maxLen;omega
 case c4=>omega
 case c5=>omega
 intro v' w2 o hg U
 have E:w2.heap[B]?=some (.cells #[.pointer (some ⟨B,0,none⟩),v] 83 (0,0)):=by
  rw [hg.block B a3 (fun e=>Q e.symm)];exact G
 have d1:w2.cell? ⟨B,1,none⟩=some v:=by rw [Lib.cell_of_heap E];rfl
 have f1:w2.frozen? ⟨B,1,none⟩=false:=Lib.frozen_of_heap E 1
 obtain ⟨ao,n',cap,rfl⟩:∃ao n' cap,v'=.slice ao n' cap:=by
  rcases o.2 with ⟨hv,_⟩ | ⟨g,cap,cur,fz,hv,_⟩
  ·exact ⟨_,_,_,hv⟩
  ·exact ⟨_,_,_,hv⟩
 have D:Hid (∀g,(Value.slice ao n' cap).ownBlock=some g->(K g\/(w.heap.size<=g/\g<w2.heap.size))/\g≠B):=fun g d=>by
  have O:=(o.lt g d).2;rcases U with hn | hn
  ·rw [hn] at d;exact ⟨.inl (I g d),fun e=>Q (e ▸ d)⟩
  ·have:=hn g d;exact ⟨.inr ⟨by rw [<-a2.out];exact this,O⟩,fun e=>by omega⟩
 have a1:Hid (zk K w w2):=J.grown hg (fun k hk _=>I k hk);clear U J I;go_wp2
 go_ret2
 refine ⟨rfl,a1.out.set B 1 _ M,.inl M,_,.slice ao n' cap,.inr rfl,(show zg w2 B 83 #[.pointer (some ⟨B,0,none⟩),v] from E).set (k:=1) _,?_,?_,fun g d=>?_⟩
 ·refine ownF_chg (X:=fun b=>b=B) ?_ ((zk.refl (fun b=>b=B) w2).set B 1 _ rfl) (fun g d e=>(D.out g d).2 e);simpa [Lib.strCells_length] using o
 ·exact fun e=>(D.out B e).2 rfl
 ·have h1:=(D.out g d).1;simpa [World.setCell] using h1
theorem buiK_app (h:BuiK K B (Lib.byteCells x++Lib.strCells ⟨y.toArray⟩) w) (e:z=x++y):BuiK K B (Lib.byteCells z) w:=by
 rw [bui_str] at h;rw [e];exact h
end
end Go.Proofs.YtfjjdmpndmbfoaaGreatDoor
