import Derived.Test.YthbjngbhbbkkgaaGreatHPi
import Derived.Test.YthbjngbhbbkkgaaGreatHPj
import Derived.Deep.LoopGhost
import Derived.Deep.AppendLies
import Derived.StillTailTactics
import Derived.WalkLawsBesides
import Derived.Recover
set_option linter.unusedVariables false
set_option linter.unusedSimpArgs false
set_option maxRecDepth 100000
set_option maxHeartbeats 16000000
namespace Go.Proofs.YthbjngbhbbkkgaaGreat
variable {ls:List (List Int)} {ch:List Int} {m:MZ} {gp gs gx:Nat} {ok:Nat->Prop} {a0 a1 a2 d v z0 z1 z2:Value} {W WZ w w6 wr:World} {P:World->Prop}
section
open Go.RowKit
attribute [local go_sem ↓] Go.wp_at_zero Go.wp_at_succ
theorem made_calls (w:World) (hl:zq w ok v ls) (E4:ls.length<=9223372036854775807) (r6:∀l∈ls,l.length<=9223372036854775807):
  Calls Tryz.prog 31 #[v] w (BA w):=by
 have r4:=hl.bound;have D5:=zh r4;obtain ⟨vs,⟨A,c,rfl,hc,hr⟩,he⟩:=r4;have HR:=zh hr;have HE:=zh he;clear hl hr he;have k8:=zh r6;clear r6;obtain ⟨iI,ji,jz0,jz1,jz2⟩:=info_parts Tryz.infoInt;have JF:=zh ji;have JZ0:=zh jz0;have JZ1:=zh jz1;have JZ2:=zh jz2;clear ji jz0 jz1 jz2;obtain ⟨iB,bi,bz0,bz1,bz2⟩:=info_parts Tryz.infoBool;have BF:=zh bi;have BZ0:=zh bz0;have BZ1:=zh bz1;have BZ2:=zh bz2;clear bi bz0 bz1 bz2;obtain ⟨iT,ti,tz0,tz1,tz2⟩:=info_parts Tryz.infoTask;have TF:=zh ti;have TZ0:=zh tz0;have TZ1:=zh tz1;have TZ2:=zh tz2;clear ti tz0 tz1 tz2;obtain ⟨iL,li,lz0,lz1,lz2⟩:=info_parts Tryz.infoBools;have LF:=zh li;have LZ0:=zh lz0;have LZ1:=zh lz1;have LZ2:=zh lz2;clear li lz0 lz1 lz2
 go_enter Tryz.func31,Tryz.ntmps31
 go_upto_region 1 with fail;generalize i4:w.alloc (.cells #[.int .i64 0,.int .i64 0,.int .i64 0,.slice none 0 0,.slice none 0 0,.slice none 0 0] 32)=w1;have l8:zb w w1:=by rw [<-i4];exact (zb.refl w).alloc _
 have c9:Hid (zg w1 w.heap.size 32 #[.int .i64 0,.int .i64 0,.int .i64 0,.slice none 0 0,.slice none 0 0,.slice none 0 0]/\w1.heap.size=w.heap.size+1):=by rw [<-i4];exact ⟨zg.new _ _ _ rfl,by simp⟩
 clear i4;have b6:=zh l8;obtain ⟨B,hB⟩:=zak w1.heap.size;obtain ⟨gd,d6⟩:=zak w1.heap.size;have HB:=zh hB;have e4:=zh d6;have n9:zZ B (w1.alloc (.cells #[.slice none 0 0,.int .i64 0] 108)) gd:=⟨by omega,_,0,[],zg.new _ _ _ d6,zi.nil _ _,by simp,by simp⟩;have t6:=zh n9;clear n9 l8
 go_upto_if 20 with fail
 rw [<-d6];go_cut [] (fun wx=>Hid (zb w1 wx/\zZ B wx gd))
 case first=>
  by_cases E:ls.length=0
  ·have h8:decide ((0:Int)<(ls.length:Int))=false:=by rw [E];rfl
   have d7:decide (0<ls.length)=false:=by rw [E];rfl
   have f8:¬ (0<ls.length):=by omega
   have HZ:=zh E;clear E
   go_wp2_with fail
   go_meet;exact ⟨(zb.refl _).alloc _,t6.out⟩
  ·have hp:0<ls.length:=by omega
   have h8:decide ((0:Int)<(ls.length:Int))=true:=EQ (by omega);have d7:decide (0<ls.length)=true:=EQ hp;obtain ⟨b0,o0,u0,rfl,s0,b4,e0⟩:=zO HR.out HE.out hp hp;have HU:=zh e0;obtain ⟨A0,c0,rfl,n7,-⟩:=e0;rw [Nat.add_zero] at b4;have q0:=zb.rule b4;have f6:zb w (w1.alloc (.cells #[.slice none 0 0,.int .i64 0] 108)):=b6.out.alloc _;clear E b4
   go_wp2_with fail
   go_meet;have h1:=f6;refine ⟨(zb.refl _).alloc _,by omega,_,0,ls[0],zg.new _ _ _ d6,?_,k8.out _ (EO hp),Fb _⟩;exact (zi.below HU.out (b6.out.alloc _)).weaken fun b hb=>by have:=hb.2;have:=c9.out.2;omega
 case rest=>
  have h4:B<=w1.heap.size:=by omega
  clear hB d6;obtain ⟨i6,o3⟩:=hcut.out;have t7:=zh o3;clear hcut o3
  go_wp2_with fail
  refine (zW 3 t7.out (by omega) (by omega)).mono ?_;rintro e w3 ⟨x,rfl,E5,E6,o4,p9⟩;have i7:zb w1 w3:=Below.grown i6 p9 i6.size (fun k Z=>by injection Z with Z;have:=e4.out;omega);have t8:=zh o4;clear o4 p9 i6
  go_wp2_with fail
  refine (zW 4 t8.out (by omega) (by omega)).mono ?_;rintro e w4 ⟨y,rfl,E7,E8,o5,q3⟩;have i8:zb w1 w4:=Below.grown i7 q3 i7.size (fun k Z=>by injection Z with Z;have:=e4.out;omega);have t9:=zh o5;clear o5 q3 i7
  go_wp2_with fail
  refine (zW 2 t9.out (by omega) (by omega)).mono ?_;rintro e w5 ⟨z,rfl,F0,F1,o6,q4⟩;have b5:zb w1 w5:=Below.grown i8 q4 i8.size (fun k Z=>by injection Z with Z;have:=e4.out;omega);have v3:=zh o6;clear o6 q4 i8;have k9:Hid (zg (w5.alloc (.cells #[.int .i64 (2+x),.int .i64 (1+y),.int .i64 (1+z),.slice none 0 0,.slice none 0 0,.slice none 0 0] 32)) w5.heap.size 32 #[.int .i64 (2+x),.int .i64 (1+y),.int .i64 (1+z),.slice none 0 0,.slice none 0 0,.slice none 0 0]):=zg.new _ _ _ rfl;obtain ⟨gm,f2⟩:=zak w5.heap.size;rw [<-f2] at k9;have g8:=zh f2;have v5:=zh b5
  go_upto_if 39 with fail
  rw [<-f2];clear f2;go_cut [] (fun wx=>Hid (zb w1 wx/\zZ B wx gd/\∃W H L:Int,(2<=W/\W<=4)/\(1<=H/\H<=4)/\(L=1\/(L=2/\W<=3/\H<=2))/\zg wx gm 32 #[.int .i64 W,.int .i64 H,.int .i64 L,.slice none 0 0,.slice none 0 0,.slice none 0 0]))
  case first=>
   have a9:=k9.out;generalize i5:w5.alloc (.cells #[.int .i64 (2+x),.int .i64 (1+y),.int .i64 (1+z),.slice none 0 0,.slice none 0 0,.slice none 0 0] 32)=w6 at*;have i9:zb w1 w6:=by rw [<-i5];exact b5.alloc _
   have j5:Hid (zZ B w6 gd):=by rw [<-i5];exact v3.out.ext ((zb.refl _).alloc _) (EP h4 b5.size)
   clear i5;have m0:w6.cell? ⟨gm,0,none⟩=some (.int .i64 (2+x)):=a9.cell (k:=0) rfl;have m1:w6.cell? ⟨gm,1,none⟩=some (.int .i64 (1+y)):=a9.cell (k:=1) rfl;have m2:w6.cell? ⟨gm,2,none⟩=some (.int .i64 (1+z)):=a9.cell (k:=2) rfl;have hf:=fun k=>a9.frozen k
   have g3:=zh a9;clear a9;by_cases e3:z=1
   ·have ht:((1+z:Int)==2)=true:=by rw [beq_iff_eq];omega
    have B2:decide (1+z=2)=true:=EQ (by omega);have i2:(z==1)=true:=by rw [beq_iff_eq];exact e3
    have y6:=zh e3;clear e3
    go_wp2_with fail
    go_meet;have f1:B<=gm:=by have:=g8.out;have:=b5.size;omega
    have q7:w1.heap.size<=gm:=by have:=g8.out;have:=b5.size;omega
    have p7:=j5.out;refine ⟨(i9.setCell (p:=⟨gm,0,none⟩) q7 _).setCell (p:=⟨gm,1,none⟩) q7 _,?_,min (2+x) 3,min (1+y) 2,1+z,by omega,by omega,.inr ⟨by have:=y6.out;omega,by omega,by omega⟩,?_⟩
    ·obtain ⟨cs,hb⟩:=p7.blk;have r9:gd≠gm:=zg.ne_ hb (g3.out) (by decide);exact p7.keep (((Below.refl B w6).setCell (p:=⟨gm,0,none⟩) f1 _).setCell (p:=⟨gm,1,none⟩) f1 _) ((EW _ ⟨gm,1,none⟩ _ gd r9).trans (EW _ ⟨gm,0,none⟩ _ gd r9))
    ·exact ((g3.out).set (k:=0) _).set (k:=1) _
   ·have ht:((1+z:Int)==2)=false:=by rw [Fa];omega
    have B2:decide (1+z=2)=false:=ER (by omega);have i2:(z==1)=false:=by rw [Fa];exact e3
    have s9:Hid (1+z=1):=by show _=_;omega
    clear e3
    go_wp2_with fail
    go_meet;exact ⟨i9,j5.out,2+x,1+y,1+z,by omega,by omega,.inl s9.out,g3.out⟩
  case rest=>
   obtain ⟨j0,o7,W,H,L,hW,hH,hL,Q⟩:=hcut.out;clear hcut;have p5:=dims hW hH hL;have l4:Hid ((2<=W/\W<=4)/\(1<=H/\H<=4)/\(L=1\/(L=2/\W<=3/\H<=2))):=⟨hW,hH,hL⟩;have m0:wc.cell? ⟨gm,0,none⟩=some (.int .i64 W):=Q.cell (k:=0) rfl;have m1:wc.cell? ⟨gm,1,none⟩=some (.int .i64 H):=Q.cell (k:=1) rfl;have m2:wc.cell? ⟨gm,2,none⟩=some (.int .i64 L):=Q.cell (k:=2) rfl;have m3:wc.cell? ⟨gm,3,none⟩=some (.slice none 0 0):=Q.cell (k:=3) rfl;have m4:wc.cell? ⟨gm,4,none⟩=some (.slice none 0 0):=Q.cell (k:=4) rfl;have m5:wc.cell? ⟨gm,5,none⟩=some (.slice none 0 0):=Q.cell (k:=5) rfl;have w0:=zh Q;have v4:=zh o7;clear Q o7 hW hH hL b5
   go_wp2_with fail
   refine (AA W H L _ _ _ _ (by omega) (by omega)).mono ?_;rintro e w8 ⟨rfl,n6⟩;have a8:zb wc w8:=n6;have f7:zb w1 w8:=j0.trans a8;have j6:Hid (zZ B w8 gd):=v4.out.ext a8 (EP h4 j0.size);have x0:Hid (zg w8 gm 32 #[.int .i64 W,.int .i64 H,.int .i64 L,.slice none 0 0,.slice none 0 0,.slice none 0 0]):=w0.out.ext a8;obtain ⟨n,hn⟩:∃n:Nat,(n:Int)=W*H*L:=⟨(W*H*L).toNat,by omega⟩;rw [<-hn];have HN:=zh hn;have f3:2<=n/\n<=16:=by omega
   clear hn p5 m0 m1 m2 m3 m4 m5 n6 a8 j0
   go_wp2_with fail
   refine (zW 3 j6.out (by omega) (by omega)).mono ?_;rintro e w9 ⟨z9,rfl,t3,t4,o8,h5⟩;obtain ⟨many,d9⟩:∃many:Nat,(many:Int)=1+z9:=⟨(1+z9).toNat,by omega⟩;have r7:1<=many/\many<=3:=by omega
   have H9:Hid (MS B w9 w9.heap.size gm gd W H L n 0 0 (.slice none 0 0) (.slice none 0 0) (.slice none 0 0) [] []):=by
    have f1:B<=gm:=by have:=g8.out;have:=v5.out.size;omega
    have h0:MS B w8 w8.heap.size gm gd W H L n 0 0 (.slice none 0 0) (.slice none 0 0) (.slice none 0 0) [] []:=⟨EP h4 f7.size,EN _,x0.out,f1,j6.out,World.ownsRow_nil _ _ _ _,World.ownsRow_nil _ _ _ _,fun j hj=>by omega,fun j hj=>by omega⟩;have h1:=h0.drawn o8 h5;exact h1.ext (zb.refl _)
   have s8:zb w1 w9:=Below.grown f7 h5 f7.size (fun k Z=>by injection Z with Z;have:=e4.out;omega);have l5:=zh s8;clear o8 h5 s8 f7
   go_wp2_with fail
   rw [<-d9];clear d9 t3 t4
   go_loopg [7] many (fun gk v wr=>∃(t:Nat) (vF vT:Value) (fs ts:List Value),v=.int .i64 t/\t<=many/\gk=many - t/\Hid (MS B wr wr.heap.size gm gd W H L n t t vF (.slice none 0 0) vT fs ts/\zb w1 wr))
   case atStart=>exact ⟨0,_,_,[],[],rfl,Fb _,rfl,H9.out,l5.out⟩
   clear H9 l5
   case round=>
    obtain ⟨t,vF,vT,fs,ts,rfl,ht,rfl,G⟩:=hrel;obtain ⟨wR,rfl⟩:∃wR:World,wR=wr:=⟨_,rfl⟩;rcases Fk t many with i0 | hge
    ·skip
     have i1:B<=wR.heap.size:=G.out.1.hB;obtain ⟨ge,hge⟩:=zak wR.heap.size;have c4:=zh hge;have j8:Hid (zZ B (wR.alloc (.cells #[.slice none 0 0,.int .i64 0] 108)) ge):=⟨by omega,_,0,[],zg.new _ _ _ hge,zi.nil _ _,by simp,by simp⟩;have g4:Hid (zg (wR.alloc (.cells #[.slice none 0 0,.int .i64 0] 108)) ge 108 #[.slice none 0 0,.int .i64 0]):=zg.new _ _ _ hge;have g5:Hid (zb wR (wR.alloc (.cells #[.slice none 0 0,.int .i64 0] 108))):=(zb.refl _).alloc _
     go_upto_if 64 with fail
     rw [<-hge];clear hge;generalize wR.alloc _=wa at*;go_cut [] (fun wx=>Hid (zb wR wx/\zZ B wx ge))
     case first=>
      by_cases E:t+1<ls.length
      ·have h8:decide ((t:Int)+1<(ls.length:Int))=true:=EQ (by omega);have d7:decide (t+1<ls.length)=true:=EQ E;have f8:(t:Int)+1<(ls.length:Int):=by omega
       obtain ⟨b0,o0,u0,rfl,s0,b4,e0⟩:=zO HR.out HE.out E E;have HU:=zh e0;obtain ⟨A0,c0,rfl,n7,-⟩:=e0;have q0:=zb.rule b4;have s7:zb w wR:=b6.out.trans G.out.2;have f6:zb w wa:=s7.trans g5.out;have x9:=zh f6;have D7:wa.cell? ⟨ge,0,none⟩=some (.slice none 0 0):=g4.out.cell (k:=0) rfl;have E1:wa.frozen? ⟨ge,0,none⟩=false:=g4.out.frozen 0;clear b4 s7
       go_wp2_with fail
       go_meet;have A5:wR.heap.size<=ge:=by have:=c4.out;omega
       have A6:w.heap.size<=ge:=by have:=c4.out;have:=(Below.size (b6.out.trans G.out.2));omega
       refine ⟨g5.out.setCell (p:=⟨ge,0,none⟩) A5 _,by have:=c4.out;omega,_,0,ls[t+1],g4.out.set (k:=0) _,?_,k8.out _ (EO E),Fb _⟩;exact (zi.keep HU.out (Ao.of_below (x9.out.setCell (p:=⟨ge,0,none⟩) A6 _))).weaken fun b hb=>by have:=hb.2;have:=c9.out.2;have:=HB.out;omega
      ·have h8:decide ((t:Int)+1<(ls.length:Int))=false:=ER (by omega);have d7:decide (t+1<ls.length)=false:=ER E;have f8:¬ (t:Int)+1<(ls.length:Int):=by omega
       have HZ:=zh E;clear E
       go_wp2_with fail
       go_meet;exact ⟨g5.out,j8.out⟩
     case rest=>
      obtain ⟨j1,p4⟩:=hcut.out;have g9:=zh j1;have j7:=zh p4;clear hcut p4 j8;obtain ⟨w6,rfl⟩:∃w6:World,w6=wc:=⟨_,rfl⟩;have y7:B<=w6.heap.size:=EP i1 j1.size;have A7:ge<w6.heap.size:=j7.out.lt;have i2:t<3:=by omega
      have s1:(t:Int)<3:=by omega
      have s2:(0:Int)<=(t:Int):=by omega
      clear j1
      go_wp2_with fail
      refine r16_wp j7 y7 A7 i2 s1 s2 f3 ?hQ16
      case hQ16=>
       intro v W hJ _;obtain ⟨s,g7,g11,gt,x1,x2,B4,B5,s5,f9,n2⟩:=hJ.fin i1 g9.out.size (by have:=c4.out;omega);have l9:zb wR W:=Below.grown g9.out hJ.gb g9.out.size (fun k Z=>by injection Z with Z;have:=c4.out;omega);have e6:=zh n2;have k5:=zh l9;clear hJ n2 l9 B4 B5 s5;rw [f9];clear f9
       go_wp2_with fail
       refine (zW 3 e6.out.dr (by omega) (by omega)).mono ?_;rintro e wb ⟨z,rfl,s9,E9,o9,h6⟩;have c6:=zh (e6.out.drawn o9 h6);have b9:=zh (e6.out.drawnExt k5.out h6);clear o9 h6 e6 k5
       go_upto_if 88 with fail
       go_cut [] (fun wx=>∃(u1:Value) (l1:List Int),Hid (R1 B wx wR.heap.size ge gt n s u1 (.slice (some ⟨g11,0,none⟩) 1 1) l1 [x2]/\zb wR wx/\l1.length<=2))
       case first=>
        by_cases E:z=0
        ·have j2:(z==0)=true:=by rw [beq_iff_eq];exact E
         have HZ:=zh E;clear E
         go_wp2_with fail
         refine r18_wp c6 b9 f3 (fun c a a' W he h=>(show a'.defers=[]/\BA w (.panicked c) W from ⟨he ▸ (show a.defers=[]/\BA w (.panicked c) W from h).1,(show a.defers=[]/\BA w (.panicked c) W from h).2⟩)) fun u1 l1 W h9 x89 x90 x91 x92 x93 x94 x95 x96=>?_
         go_wp2_with fail
         go_meet;exact ⟨_,_,h9⟩
        ·have j2:(z==0)=false:=by rw [Fa];exact E
         have HZ:=zh E;clear E
         go_wp2_with fail
         go_meet;exact ⟨_,[x1],c6.out,b9.out,by simp⟩
       case rest=>
        obtain ⟨u1,l1,f4⟩:=hcut;have e7:=zh f4.out.1;have k2:=zh f4.out.2.1;have k6:=zh f4.out.2.2;clear f4
        go_wp2_with fail
        refine (zW 3 e7.out.dr (by omega) (by omega)).mono ?_;rintro e wq ⟨zz,rfl,D2,D3,p6,h7⟩;have c7:=zh (e7.out.drawn p6 h7);have b7:=zh (e7.out.drawnExt k2.out h7);clear p6 h7 e7 k2 c6 b9
        go_upto_if 99 with fail
        go_cut [] (fun wx=>∃(u2:Value) (l2:List Int),Hid (R1 B wx wR.heap.size ge gt n s u1 u2 l1 l2/\zb wR wx/\l2.length<=2))
        case first=>
         by_cases E:zz=0
         ·have j2:(zz==0)=true:=by rw [beq_iff_eq];exact E
          have HZ:=zh E;clear E
          go_wp2_with fail
          refine r20_wp c7 b7 f3 (fun c a a' W he h=>(show a'.defers=[]/\BA w (.panicked c) W from ⟨he ▸ (show a.defers=[]/\BA w (.panicked c) W from h).1,(show a.defers=[]/\BA w (.panicked c) W from h).2⟩)) fun u2 l2 W h9 x100 x101 x102 x103 x104 x105 x106 x107=>?_
          go_wp2_with fail
          go_meet;exact ⟨_,_,h9⟩
         ·have j2:(zz==0)=false:=by rw [Fa];exact E
          have HZ:=zh E;clear E
          go_wp2_with fail
          go_meet;exact ⟨_,[x2],c7.out,b7.out,by simp⟩
        case rest=>
         obtain ⟨u2,l2,f5⟩:=hcut;have x6:=zh f5.out.1;have k4:=zh f5.out.2.1;have k7:=zh f5.out.2.2;obtain ⟨w7,rfl⟩:∃w7:World,w7=wc:=⟨_,rfl⟩;have j4:Hid (BW w7 w7.heap.size (.slice none 0 0) []):=World.ownsRow_nil _ _ _ _;clear f5 c7 b7
         go_wp2_with fail
         go_loopg [10,11] n (fun gk vf v wr=>∃(k:Nat) (lf:List Bool),v=.int .i64 k/\k<=n/\gk=n - k/\lf.length=k/\Hid (R1 B wr wR.heap.size ge gt n s u1 u2 l1 l2/\zb wR wr/\BW wr w7.heap.size vf lf/\w7.heap.size<=wr.heap.size))
         case atStart=>exact ⟨0,[],rfl,Fb _,rfl,rfl,x6.out,k4.out,j4.out,EN _⟩
         clear j4
         case round=>
          obtain ⟨k,lf,rfl,Z,rfl,r5,hQ⟩:=hrel;have e8:=zh k4.out.size;have e5:=zh r5;have A8:lf.length<=16:=by omega
          clear r5;rcases Fk k n with d8 | hge2
          ·skip
           go_wp2_with fail
           refine (zW 6 hQ.out.1.dr (by omega) (by omega)).mono ?_;rintro e wd ⟨x,rfl,f6,i9,p3,V⟩;have a6:=zh (hQ.out.1.drawn p3 V);have g6:=zh (hQ.out.1.drawnExt hQ.out.2.1 V)
           have a5:Hid (BW wd w7.heap.size u10 lf):=Ai hQ.out.2.2.1 fun g I=>V.block g (World.ownsRow.lt hQ.out.2.2.1 g I).2 (fun e=>by
            obtain ⟨cs,hb⟩:=hQ.out.1.dr.blk;injection e with e;subst e;exact zj hQ.out.2.2.1 hb (by decide) I)
           have B0:w7.heap.size<=wd.heap.size:=EP hQ.out.2.2.2 V.size;clear p3 V;obtain ⟨Af,cf,rfl,E0,-⟩:=a5.out.bools;have E3:(0:Int)<=(k:Int):=by omega
           have C2:wd.cell? ⟨gt,1,none⟩=some u1:=a6.out.tk.cell (k:=1) rfl;have C3:wd.cell? ⟨gt,2,none⟩=some u2:=a6.out.tk.cell (k:=2) rfl;by_cases hx:0<x
           ·have B6:decide (0<x)=true:=EQ hx
            go_wp2_with (at_builtin;refine wpList_append_own_at _ rfl _ _ 29 rfl w7.heap.size 4 iB (.bool false) 1 1 Tryz.underlying29 BF.out BZ0.out BZ1.out BZ2.out rfl (by decide) (.slice Af lf.length cf) lf.length _ rfl (World.ownsRow.alloc a5.out _) ⟨wd.heap.size,0,none⟩ 1 1 [.bool true] rfl rfl (cell_one_new _ _ _) (by simp [Value.oneCell']) (by unfold maxLen;omega) (by omega) (by simp;omega) ?_)
            intro v' w9 o I _ O;obtain ⟨a3,U⟩:=a6.out.grownB a5.out e8.out I;have c8:=zh a3;have b8:Hid (zb wR w9):=Below.trans g6.out U;have d4:Hid (w7.heap.size<=w9.heap.size):=by have:=I.size;simp at this;show _<=_;omega
            have c5:Hid (BW w9 w7.heap.size v' (lf++[true])):=BW.app o;clear a3 U o I O
            go_wp2_with fail
            go_roundg (n - (k+1))
            case measure=>omega
            case rel=>exact ⟨k+1,lf++[true],by go_num,d8,rfl,by have:=e5.out;simp;omega,c8.out,b8.out,c5.out,d4.out⟩
           ·have B6:decide (0<x)=false:=ER hx
            go_wp2_with fail
            refine (zL (k:Int) wd (zV.of_own a6.out.o1) (by have:=k6.out;omega)).mono ?_;rintro e w' ⟨rfl,rfl⟩;generalize decide ((k:Int)∈l1)=b1
            cases b1 with
            | true=>
             go_wp2_with (at_builtin;refine wpList_append_own_at _ rfl _ _ 29 rfl w7.heap.size 4 iB (.bool false) 1 1 Tryz.underlying29 BF.out BZ0.out BZ1.out BZ2.out rfl (by decide) (.slice Af lf.length cf) lf.length _ rfl (World.ownsRow.alloc a5.out _) ⟨wd.heap.size,0,none⟩ 1 1 [.bool true] rfl rfl (cell_one_new _ _ _) (by simp [Value.oneCell']) (by unfold maxLen;omega) (by omega) (by simp;omega) ?_)
             intro v' w9 o I _ O;obtain ⟨a3,U⟩:=a6.out.grownB a5.out e8.out I;have c8:=zh a3;have b8:Hid (zb wR w9):=Below.trans g6.out U;have d4:Hid (w7.heap.size<=w9.heap.size):=by have:=I.size;simp at this;show _<=_;omega
             have c5:Hid (BW w9 w7.heap.size v' (lf++[true])):=BW.app o;clear a3 U o I O
             go_wp2_with fail
             go_roundg (n - (k+1))
             case measure=>omega
             case rel=>exact ⟨k+1,lf++[true],by go_num,d8,rfl,by have:=e5.out;simp;omega,c8.out,b8.out,c5.out,d4.out⟩
            | false=>
             go_wp2_with fail
             refine (zL (k:Int) wd (zV.of_own a6.out.o2) (by have:=k7.out;omega)).mono ?_;rintro e w' ⟨rfl,rfl⟩;generalize decide ((k:Int)∈l2)=b2
             go_wp2_with (at_builtin;refine wpList_append_own_at _ rfl _ _ 29 rfl w7.heap.size 4 iB (.bool false) 1 1 Tryz.underlying29 BF.out BZ0.out BZ1.out BZ2.out rfl (by decide) (.slice Af lf.length cf) lf.length _ rfl (World.ownsRow.alloc a5.out _) ⟨wd.heap.size,0,none⟩ 1 1 [.bool b2] rfl rfl (cell_one_new _ _ _) (by simp [Value.oneCell']) (by unfold maxLen;omega) (by omega) (by simp;omega) ?_)
             intro v' w9 o I _ O;obtain ⟨a3,U⟩:=a6.out.grownB a5.out e8.out I;have c8:=zh a3;have b8:Hid (zb wR w9):=Below.trans g6.out U;have d4:Hid (w7.heap.size<=w9.heap.size):=by have:=I.size;simp at this;show _<=_;omega
             have c5:Hid (BW w9 w7.heap.size v' (lf++[b2])):=BW.app o;clear a3 U o I O
             go_wp2_with fail
             go_roundg (n - (k+1))
             case measure=>omega
             case rel=>exact ⟨k+1,lf++[b2],by go_num,d8,rfl,by have:=e5.out;simp;omega,c8.out,b8.out,c5.out,d4.out⟩
          ·skip
           have r3:k=n:=by omega
           have v7:=zh r3;have C4:decide (k<n)=false:=ER (by omega);have C5:decide ((k:Int)<(n:Int))=false:=ER (by omega);have C6:¬ k<n:=by omega
           clear r3 hge2;have e9:=G.out.1.ext hQ.out.2.1;have m5:wr.cell? ⟨gm,5,none⟩=some vT:=e9.mz.cell (k:=5) rfl;have hf:=fun j=>e9.mz.frozen j
           have d5:∀j,wr.frozen? ⟨gm,j,none⟩=false:=hf;obtain ⟨A1,c1,rfl,-⟩:=Bk hQ.out.1.o1;obtain ⟨A2,c2,rfl,-⟩:=Bk hQ.out.1.o2;have t0:wr.cell? ⟨gt,0,none⟩=some (.string s):=hQ.out.1.tk.cell (k:=0) rfl;have t1:wr.cell? ⟨gt,1,none⟩=some (.slice A1 l1.length c1):=hQ.out.1.tk.cell (k:=1) rfl;have t2:wr.cell? ⟨gt,2,none⟩=some (.slice A2 l2.length c2):=hQ.out.1.tk.cell (k:=2) rfl;have a4:=zh e9;clear e9 hf
           go_wp2_with (at_builtin;refine wpList_append_own_at _ rfl _ _ 30 rfl B 56 iT (.agg #[.string ⟨#[]⟩,.slice none 0 0,.slice none 0 0]) 3 64 Tryz.underlying30 TF.out TZ0.out TZ1.out TZ2.out rfl (by decide) vT t _ rfl (a4.out.T.alloc _) ⟨wr.heap.size,0,none⟩ 1 1 [.string s,.slice A1 l1.length c1,.slice A2 l2.length c2] rfl rfl (cells3n _ _ _ _ _) (by simp [Value.oneCell']) (by unfold maxLen;omega) (by omega) (by have:=a4.out.hB;simp;omega) ?_)
           intro v' w9 o I _ O;obtain ⟨gv,cv,rfl,-,-⟩:=World.ownsRow.form o (by omega);obtain ⟨m6,n1,n4⟩:=a4.out.end1 hQ.out.1 k6.out k7.out hQ.out.2.2.1 o I;have D:w9.heap[gm]?=wr.heap[gm]?:=(I.block gm (by have:=zd a4.out.mz;simp;omega) (fun e=>zj a4.out.T a4.out.mz (by decide) e.symm)).trans (Ff _ _ _ (zd a4.out.mz));have n8:w9.cell? ⟨gm,5,none⟩=some vT:=(Fc (a:=⟨gm,5,none⟩) D).trans m5;have p8:w9.frozen? ⟨gm,5,none⟩=false:=(Fm (a:=⟨gm,5,none⟩) D).trans (d5 5);have J:=zh m6;have l0:=zh n1;have j9:Hid (zb w1 (w9.setCell ⟨gm,5,none⟩ (.slice (some ⟨gv,0,none⟩) (t+1) cv))):=Below.trans (zb.trans G.out.2 hQ.out.2.1) (HB.out ▸ n4);clear m6 n1 n4 o I O D m5 d5 t0 t1 t2;go_upto_region 27 with fail;clear n8 p8;generalize w9.setCell ⟨gm,5,none⟩ (.slice (some ⟨gv,0,none⟩) (t+1) cv)=wv at*;obtain ⟨Af,cf,rfl,-,-⟩:=l0.out.bools;have m3:wv.cell? ⟨gm,3,none⟩=some vF:=J.out.mz.cell (k:=3) rfl;have d5:∀j,wv.frozen? ⟨gm,j,none⟩=false:=fun j=>J.out.mz.frozen j
           have v8:Hid (∀g,(Value.slice Af lf.length cf).ownBlock=some g->g<wr.heap.size):=fun g I=>(World.ownsRow.lt hQ.out.2.2.1 g I).2
           go_wp2_with (at_builtin;refine wpList_append_own_at _ rfl _ _ 28 rfl B 29 iL (.slice none 0 0) 1 24 Tryz.underlying28 LF.out LZ0.out LZ1.out LZ2.out rfl (by decide) vF t _ rfl (J.out.F.alloc _) ⟨wv.heap.size,0,none⟩ 1 1 [.slice Af lf.length cf] rfl rfl (cell_one_new _ _ _) (by simp [Value.oneCell']) (by unfold maxLen;omega) (by omega) (by have:=J.out.hB;simp;omega) ?_)
           intro v2 w9 o I _ O;obtain ⟨gv2,cv2,rfl,-,-⟩:=World.ownsRow.form o (by omega);obtain ⟨m7,n5⟩:=J.out.end2 l0.out (e5.out.trans v7.out) (EP i1 e8.out) v8.out o I;have D:w9.heap[gm]?=wv.heap[gm]?:=(I.block gm (by have:=zd J.out.mz;simp;omega) (fun e=>zj J.out.F J.out.mz (by decide) e.symm)).trans (Ff _ _ _ (zd J.out.mz));have n8:w9.cell? ⟨gm,3,none⟩=some vF:=(Fc (a:=⟨gm,3,none⟩) D).trans m3;have p8:w9.frozen? ⟨gm,3,none⟩=false:=(Fm (a:=⟨gm,3,none⟩) D).trans (d5 3);have v9:=zh m7;have k3:Hid (zb w1 (w9.setCell ⟨gm,3,none⟩ (.slice (some ⟨gv2,0,none⟩) (t+1) cv2))):=Below.trans j9.out (HB.out ▸ n5);clear m7 n5 o I O D m3 d5
           go_wp2_with fail
           go_roundg (many - (t+1))
           case measure=>omega
           case rel=>exact ⟨t+1,_,_,_,_,by go_num,i0,rfl,v9.out,k3.out⟩
    ·skip
     have B3:t=many:=by omega
     subst B3;have D0:decide (t<t)=false:=ER (by omega);have l7:0<t:=by omega
     obtain ⟨gT,cT,rfl,q6,-⟩:=World.ownsRow.form G.out.1.T l7;obtain ⟨gF,cF,rfl,q5,-⟩:=World.ownsRow.form G.out.1.F l7;have HcT:=zh (BG G.out.1.T);have HcF:=zh (BG G.out.1.F);clear hge;have m8:=zh (G.out.1);have n3:=zh (G.out.2);clear G
     go_wp2_with fail
     have n0:Hid (MS B wR wR.heap.size gm gd W H L n t t (.slice (some ⟨gF,0,none⟩) t cF) (.slice none 0 0) (.slice (some ⟨gT,0,none⟩) t cT) fs ts/\zb w1 wR):=⟨m8.out,n3.out⟩;clear m8 n3;refine loop12_wp HB q6 q5 HcT HcF f3 r7 n0 (fun c a a' W he h=>(show a'.defers=[]/\BA w (.panicked c) W from ⟨he ▸ (show a.defers=[]/\BA w (.panicked c) W from h).1,(show a.defers=[]/\BA w (.panicked c) W from h).2⟩)) fun wA hA x13 x14 x143 x144 x145 x146 x147 x148 x149 x150 x151 x152 x153 x154 x155 x156 x157 x158 x159 x160 x161 x162 x163 x164 x165 x166 x167 x168 x169 x170 x171 x172 x173 x174 x175 x176 x177 x178 x179 x180 x181 x182 x183 x184 x185 x186 x187 x188 x189 x190 x191 x192 x193 x194 x195 x196 x197 x198 x199 x200 x201 x202 x203 x204 x205=>?_;clear n0;obtain ⟨a,A3⟩:=zak t;subst A3
     go_wp2_with fail
     have hA0:=hA.out;obtain ⟨S,hS⟩:=zak wA.heap.size;have l3:Hid (RU w1 B wA S gm gd W H L n a a (.slice (some ⟨gF,0,none⟩) a cF) (.slice none 0 0) (.slice (some ⟨gT,0,none⟩) a cT) fs ts []):=⟨HB.out,hS ▸ hA0.1.hB,hS ▸ hA0.1,World.ownsRow_nil _ _ _ _,hA0.2⟩;clear hA0 hS hA
     go_loopg [15] n (fun gk v wr=>∃(i:Nat) (vU:Value) (us:List Bool),v=.int .i64 i/\i<=n/\gk=n - i/\us.length=i/\Hid (RU w1 B wr S gm gd W H L n a a (.slice (some ⟨gF,0,none⟩) a cF) vU (.slice (some ⟨gT,0,none⟩) a cT) fs ts us))
     case atStart=>exact ⟨0,_,[],rfl,Fb _,rfl,rfl,l3.out⟩
     clear l3
     case round=>
      obtain ⟨i,vU,us,rfl,hi,rfl,i3,hQ⟩:=hrel;obtain ⟨wU,rfl⟩:∃wU:World,wU=wr:=⟨_,rfl⟩;rcases Fk i n with hin | hin
      ·have q8:decide (i<n)=true:=EQ hin;have q9:decide ((i:Int)<(n:Int))=true:=EQ (by omega);have D4:Hid (zb w1 wU):=hQ.out.ex;have s3:us.length<=16:=by omega
       have x8:=zh i3;clear i3;go_upto_region 42 with fail;refine r42_wp hQ s3 (fun c a a' W he h=>(show a'.defers=[]/\BA w (.panicked c) W from ⟨he ▸ (show a.defers=[]/\BA w (.panicked c) W from h).1,(show a.defers=[]/\BA w (.panicked c) W from h).2⟩)) fun vU' x w2 h9 x211 x212 x213 x214 x215 x216 x217 x218=>?_;have x5:=zh h9;clear h9
       go_wp2_with fail
       go_roundg (n - (i+1))
       case measure=>omega
       case rel=>exact ⟨i+1,_,_,by go_num,hin,rfl,by rw [EV,x8.out];rfl,x5.out⟩
      ·have q8:decide (i<n)=false:=ER (by omega);have q9:decide ((i:Int)<(n:Int))=false:=ER (by omega);have s4:us.length=n:=by omega
       obtain ⟨Au,cu,s6,-,-⟩:=BW.bools hQ.out.ow;rw [i3] at s6;subst s6;have a7:=l4.out;obtain ⟨mm,r8,m9⟩:=RU.maze hQ.out a7.1 a7.2.1 a7.2.2 HN.out r7 s4;have x4:=zh r8;have x3:=zh m9;have M:zg wU w.heap.size 32 #[.int .i64 0,.int .i64 0,.int .i64 0,.slice none 0 0,.slice none 0 0,.slice none 0 0]:=c9.out.1.ext hQ.out.ex;have z0:wU.cell? ⟨w.heap.size,0,none⟩=some (.int .i64 0):=M.cell (k:=0) rfl;have z1:wU.cell? ⟨w.heap.size,1,none⟩=some (.int .i64 0):=M.cell (k:=1) rfl;have z2:wU.cell? ⟨w.heap.size,2,none⟩=some (.int .i64 0):=M.cell (k:=2) rfl;have z3:wU.cell? ⟨w.heap.size,3,none⟩=some (.slice none 0 0):=M.cell (k:=3) rfl;have z4:wU.cell? ⟨w.heap.size,4,none⟩=some (.slice none 0 0):=M.cell (k:=4) rfl;have z5:wU.cell? ⟨w.heap.size,5,none⟩=some (.slice none 0 0):=M.cell (k:=5) rfl;have hfz:∀j,wU.frozen? ⟨w.heap.size,j,none⟩=false:=fun j=>M.frozen j
       have m0:wU.cell? ⟨gm,0,none⟩=some (.int .i64 W):=hQ.out.ms.mz.cell (k:=0) rfl;have m1:wU.cell? ⟨gm,1,none⟩=some (.int .i64 H):=hQ.out.ms.mz.cell (k:=1) rfl;have m2:wU.cell? ⟨gm,2,none⟩=some (.int .i64 L):=hQ.out.ms.mz.cell (k:=2) rfl;have m3:wU.cell? ⟨gm,3,none⟩=some (.slice (some ⟨gF,0,none⟩) a cF):=hQ.out.ms.mz.cell (k:=3) rfl;have m4:wU.cell? ⟨gm,4,none⟩=some (.slice Au i cu):=hQ.out.ms.mz.cell (k:=4) rfl;have m5:wU.cell? ⟨gm,5,none⟩=some (.slice (some ⟨gT,0,none⟩) a cT):=hQ.out.ms.mz.cell (k:=5) rfl;have t5:=zh M;have v6:Hid (zb w1 wU):=hQ.out.ex;clear a7 r8 m9 M s4 hin hQ
       go_wp2_with fail
       refine zX (P:=fun W=>bodyPost Tryz.prog Tryz.f31 (BA w) Exit.ret _ W) (g2:=w.heap.size) ?_ t5.out;intro WZ b3 y8 Z;have y0:WZ.cell? ⟨w.heap.size,0,none⟩=some (.int .i64 W):=b3.cell (k:=0) rfl;have y1:WZ.cell? ⟨w.heap.size,1,none⟩=some (.int .i64 H):=b3.cell (k:=1) rfl;have y2:WZ.cell? ⟨w.heap.size,2,none⟩=some (.int .i64 L):=b3.cell (k:=2) rfl;have y3:WZ.cell? ⟨w.heap.size,3,none⟩=some (.slice (some ⟨gF,0,none⟩) a cF):=b3.cell (k:=3) rfl;have y4:WZ.cell? ⟨w.heap.size,4,none⟩=some (.slice Au i cu):=b3.cell (k:=4) rfl;have y5:WZ.cell? ⟨w.heap.size,5,none⟩=some (.slice (some ⟨gT,0,none⟩) a cT):=b3.cell (k:=5) rfl;have B7:zb w wU:=b6.out.trans v6.out;have A9:=x4.out.keep (w':=WZ) (fun b hb i0=>Z b i0 (by have:=c9.out.2;have:=HB.out;omega))
       exact FK (v:=.agg #[.int .i64 W,.int .i64 H,.int .i64 L,.slice (some ⟨gF,0,none⟩) a cF,.slice Au i cu,.slice (some ⟨gT,0,none⟩) a cT]) (by simp [results,Tryz.results31,go_sem,y0,y1,y2,y3,y4,y5]) rfl
        ⟨_,mm,rfl,Below.trans B7 y8,A9.weaken (fun b hb=>by have:=c9.out.2;have:=HB.out;omega),x3.out⟩
theorem kmade_calls {okm okl:Nat->Prop} {vm vl o0 o1 o2:Value} {l:List Int} {tk:Nat} (w:World) (hm:zq w okm vm ls) (e3:ls.length<=9223372036854775807) (e4:∀x∈ls,x.length<=9223372036854775807) (hl:zi w okl vl l) (e0:l.length<=9223372036854775807) (f2:tk<256):
  Calls Tryz.prog 9 #[.agg #[vm,vl,o0,o1,o2,.int .u8 tk]] w fun e w'=>∃vz vp z ps t,e=.returned (.tuple #[vz,vp,.int .i64 (t:Nat)])/\zb w w'/\zt w' (fun b=>w.heap.size<=b) vz z/\MadeM z/\zq w' (fun b=>w.heap.size<=b) vp ps/\AV z ps=true/\t<z.tasks.length/\ps.getD t []=[]:=by
 have HM:=zh hm;have HL:=zh hl
 go_enter Tryz.func9,Tryz.ntmps9
 go_upto_region 1 with fail;obtain ⟨W2,Z⟩:=zak ((w.alloc (.cells #[vm,vl,o0,o1,o2,.int .u8 tk] 26)).alloc (.cells #[.int .i64 0,.int .i64 0,.int .i64 0,.slice none 0 0,.slice none 0 0,.slice none 0 0] 32));rw [<-Z];have b7:zb w W2:=by rw [Z];exact DZ [_,_] w
 have U:∀(i:Nat) o,[Obj.cells #[vm,vl,o0,o1,o2,.int .u8 tk] 26,Obj.cells #[.int .i64 0,.int .i64 0,.int .i64 0,.slice none 0 0,.slice none 0 0,.slice none 0 0] 32][i]?=some o->W2.heap[w.heap.size+i]?=some o:=fun i o h=>by rw [Z];exact allocs_at _ w i o h
 clear Z;obtain ⟨gc,b9⟩:=zak w.heap.size;rw [<-b9] at U⊢;have bc:zg W2 gc 26 _:=U 0 _ rfl;have L:Hid (zg W2 (gc+1) 32 _):=U 1 _ rfl;have k0:=zb.rule (bc.cell (k:=0) rfl);have k1:=zb.rule (bc.cell (k:=1) rfl);have k5:=zb.rule (bc.cell (k:=5) rfl);obtain ⟨gz,a7⟩:=zak (gc+1);rw [<-a7] at L⊢;have a4:Hid (gz=w.heap.size+1):=by (show _=_);omega
 have b5:=zh b7;have hx:zb W2 W2:=zb.refl W2;obtain ⟨_,⟨Am,cm,rfl,-,-⟩,-⟩:=id hm;obtain ⟨Al,cl,rfl,-,-⟩:=id hl;have c6:Hid (gz=gc+1):=a7;clear b9 U bc b7 a7
 go_wp2_with fail
 refine (made_calls W2 (HM.out.below b5.out) e3 e4).mono ?_;rintro e w3 a9;obtain ⟨v',z,rfl,V,b0,a8⟩:=a9;obtain ⟨Bf,df,Bu,du,Bt,dt,rfl,-,-,-⟩:=b0.parts;have a5:=zh a8;have d5:=zh b0;have T:=zh V;have hn:=a8.tk;clear b0 a8 hm hl;have e1:=fun W h=>k1 W (V.trans h)
 have e5:=fun W h=>k5 W (V.trans h)
 clear k0 k1 k5 V;go_upto_region 2 with fail;obtain ⟨G,r0,r1,r2,r3,r4,r5⟩:=CG w3 (.int .i64 z.w) (.int .i64 z.h) (.int .i64 z.l) (.slice Bf z.free.length df) (.slice Bu z.up.length du) (.slice Bt z.tasks.length dt)
 have O:gz<(w3.alloc (.cells #[.int .i64 z.w,.int .i64 z.h,.int .i64 z.l,.slice Bf z.free.length df,.slice Bu z.up.length du,.slice Bt z.tasks.length dt] 32)).heap.size:=by
  have h1:=zd L.out;have h2:=T.out.size;simp;omega
 generalize w3.alloc _=w4 at G r0 r1 r2 r3 r4 r5 O⊢;obtain ⟨gm,c0⟩:=zak w3.heap.size;rw [<-c0] at r0 r1 r2 r3 r4 r5⊢;have k1:=fun W h=>e1 W (G.trans h)
 have k5:=fun W h=>e5 W (G.trans h)
 have d6:Hid (zg w4 gz 32 _):=((L.out.ext T.out).ext G);have b6:Hid (zb w w4):=((b5.out.trans T.out).trans G);have b2:Hid (gz<w4.heap.size):=O
 have b4:Hid (zt w4 (fun b=>gz+1<=b) _ z):=(d5.out.below G).weaken (fun b hb=>by
  have h1:=zd L.out;omega)
 have hx:zb w4 w4:=zb.refl w4
 have I:Hid (gm≠gz):=by
  show _≠_;have h1:=zd L.out;have h2:=T.out.size;omega
 have c8:Hid (gc≠gz):=by show _≠_;have:=c6.out;omega
 clear c0 G e1 e5 O
 obtain ⟨t,ht,f3,f4⟩:∃t:Nat,t<z.tasks.length/\((tk:Nat):Int).tmod (z.tasks.length:Int)=(t:Int)/\IntKind.i64.wrap (((tk:Nat):Int).tmod (z.tasks.length:Int))=(t:Int):=by
  have h:=rem_idx (n:=z.tasks.length) (k:=tk) (x:=0) (by omega) (by omega) (by omega);simpa using h
 have f5:IntKind.i64.wrap ((tk:Nat):Int)=(tk:Nat):=by rw [Fi];omega
 have f0:¬ ((z.tasks.length:Nat):Int)=0:=by omega
 have c9:Hid (t<z.tasks.length):=ht;have c7:Hid (∀W,zb w4 W->_):=fun W (hE:zb w4 W)=>made31_calls (vl:=.slice Al l.length cl) (m:=z) ((t:Nat):Int) W (b4.out.below hE) (a5.out.lens) (good_chk a5.out.good) (by omega) (HL.out.below ((b6.out.trans hE))) e0
 go_upto_region 3 with fail;have l1:=fun W (h:zu (fun b=>b=gz) w4 W)=>h.cellk (k1 w4 hx) c8.out
 have q0:=fun W (h:zu (fun b=>b=gz) w4 W)=>h.cellk (r0 w4 hx) I.out
 have q1:=fun W (h:zu (fun b=>b=gz) w4 W)=>h.cellk (r1 w4 hx) I.out
 have q2:=fun W (h:zu (fun b=>b=gz) w4 W)=>h.cellk (r2 w4 hx) I.out
 have q3:=fun W (h:zu (fun b=>b=gz) w4 W)=>h.cellk (r3 w4 hx) I.out
 have q4:=fun W (h:zu (fun b=>b=gz) w4 W)=>h.cellk (r4 w4 hx) I.out
 have q5:=fun W (h:zu (fun b=>b=gz) w4 W)=>h.cellk (r5 w4 hx) I.out
 clear r0 r1 r2 r3 r4 r5 k1 k5;refine Fd (S:=(fun W=>zu (fun b=>b=gz) w4 W)) zU (zu.of_ext (zb.refl w4).drew) fun zH=>?_;have s:zb w4 w4.drew:=(zb.refl w4).drew;generalize w4.drew=wd at zH s⊢;refine ze 0 zH ?_;refine ze 1 zH ?_;simp only [za,EK];refine ze 2 zH ?_;refine ze 3 zH ?_;simp only [za,EK];refine ze 4 zH ?_;refine ze 6 zH ?_;simp only [za,EK];refine zx 5 fun K M=>?_;go_simp;go_at_call 36;refine (c7.out wd s).mono ?_;rintro e w6 ⟨go,ps,rfl,a6,b8,hW⟩;have E:Hid (zb wd w6):=a6.ext;have c5:=zh a6;have b3:=zh b8;have d4:=zh hW;clear a6 b8 hW;refine zal M (zu.of_ext (X:=fun b=>b=gz) (s.trans E.out)) fun zH=>?_;clear M K;try simp only [za,EK]
 refine zx 7 fun K M=>?_;have D:=zh ((d6.out.ext s).ext E.out);have z0:=D.out.cell (k:=0) rfl;have z1:=D.out.cell (k:=1) rfl;have z2:=D.out.cell (k:=2) rfl;have z3:=D.out.cell (k:=3) rfl;have z4:=D.out.cell (k:=4) rfl;have z5:=D.out.cell (k:=5) rfl;have hfz:∀j,w6.frozen? ⟨gz,j,none⟩=false:=fun j=>D.out.frozen j
 go_simp;refine zal M (zu.set (zu.set (zu.set (zu.set (zu.set (zu.set (zu.of_ext (X:=fun b=>b=gz) (s.trans E.out)) gz 0 (.int .i64 z.w) rfl) gz 1 (.int .i64 z.h) rfl) gz 2 (.int .i64 z.l) rfl) gz 3 (.slice Bf z.free.length df) rfl) gz 4 (.slice Bu z.up.length du) rfl) gz 5 (.slice Bt z.tasks.length dt) rfl) fun zH=>?_;clear M K;try simp only [za,EK]
 refine zx 8 fun K M=>?_;go_simp;refine zal M (zu.set (zu.set (zu.set (zu.set (zu.set (zu.set (zu.of_ext (X:=fun b=>b=gz) (s.trans E.out)) gz 0 (.int .i64 z.w) rfl) gz 1 (.int .i64 z.h) rfl) gz 2 (.int .i64 z.l) rfl) gz 3 (.slice Bf z.free.length df) rfl) gz 4 (.slice Bu z.up.length du) rfl) gz 5 (.slice Bt z.tasks.length dt) rfl) fun zH=>?_;clear M K;try simp only [za,EK]
 refine zx 9 fun K M=>?_;go_simp;refine zal M (zu.set (zu.set (zu.set (zu.set (zu.set (zu.set (zu.of_ext (X:=fun b=>b=gz) (s.trans E.out)) gz 0 (.int .i64 z.w) rfl) gz 1 (.int .i64 z.h) rfl) gz 2 (.int .i64 z.l) rfl) gz 3 (.slice Bf z.free.length df) rfl) gz 4 (.slice Bu z.up.length du) rfl) gz 5 (.slice Bt z.tasks.length dt) rfl) fun zH=>?_;clear M K;try simp only [za,EK]
 refine Fs (by kernel_rfl) ?_ _;go_wp2;refine zX (P:=fun W=>bodyPost Tryz.prog Tryz.f9 _ Exit.ret _ W) (g2:=gz) ?_ D.out;intro WZ J d7 d8;have y0:=J.cell (k:=0) rfl;have y1:=J.cell (k:=1) rfl;have y2:=J.cell (k:=2) rfl;have y3:=J.cell (k:=3) rfl;have y4:=J.cell (k:=4) rfl;have y5:=J.cell (k:=5) rfl;refine FK (v:=.tuple #[.agg #[.int .i64 z.w,.int .i64 z.h,.int .i64 z.l,.slice Bf z.free.length df,.slice Bu z.up.length du,.slice Bt z.tasks.length dt],.slice (some ⟨go,0,none⟩) z.tasks.length z.tasks.length,.int .i64 (t:Nat)]) (by simp [results,Tryz.results9,go_sem,y0,y1,y2,y3,y4,y5]) rfl ?_;have c4:=(AS.1 b3.out).2.1;have hS:∀b,gz+1<=b->b<w6.heap.size->WZ.heap[b]?=w6.heap[b]?:=fun b hb Q=>d8 b Q (by omega)
 refine ⟨_,_,z,ps,t,rfl,Below.trans ((b6.out.trans s).trans E.out) (d7.mono (by have:=a4.out;omega)),?_,a5.out,?_,b3.out,c9.out,d4.out t rfl⟩
 ·exact (((b4.out.below s).below E.out).keep fun b hb Q=>hS b hb Q).weaken fun b hb=>by have:=a4.out;omega
 ·have h:=(c5.out.intss z.tasks.length (by rw [c4];exact EN _));rw [c4] at h;exact (h.keep fun b hb Q=>hS b (by have h1:=b2.out;have h2:=s.size;omega) Q).weaken fun b hb=>by have h1:=b2.out;have h2:=s.size;have h3:=a4.out;omega
end
section
open Go.RowKit
attribute [local go_sem ↓] Go.wp_at_zero Go.wp_at_succ
attribute [local go_sem] Oper.semAt_some
def DN (w:World) (gx:Nat) (r:Int×PT×Nat) (e:Ending) (w':World):Prop:=
 zu (fun b=>b=gx) w w'/\((r.1=0/\∃v,e=.returned v/\En w' (fun b=>w.heap.size<=b) v r.2.1/\zg w' gx 137 #[.int .i64 r.2.2])\/(r.1≠0/\e=.panicked [{ v:=.iface 38 (.int .i64 r.1),recovered:=false }]))
theorem CY {g2:Nat} {t:TypeId} (h:∀WZ,zg WZ g2 t #[a0,a1,a2]->Below g2 W WZ->(∀k,k<W.heap.size->k≠g2->WZ.heap[k]?=W.heap[k]?)->P WZ) (s:zg W g2 t #[z0,z1,z2]):
  P (((W.setCell ⟨g2,0,none⟩ a0).setCell ⟨g2,1,none⟩ a1).setCell ⟨g2,2,none⟩ a2):=
 h (setL g2 0 [a0,a1,a2] W) (setL_blk [a0,a1,a2] [z0,z1,z2] [] W rfl s) (DF g2 _ 0 W) (fun k _ o=>DG g2 k o _ 0 W)
theorem prove_fin {w4 w7 wk w5:World} {S:List Int} {tn k c6:Nat} {A6:Option Addr} {zs:Array Value} (M:gs=w.heap.size) (O:gx<gs) (G:zu (fun b=>b=gx) w w4) (z:zb w4 w7) (L:zg w4 (gs+1) 37 zs) (I:zg w4 gx 137 #[.int .i64 ((k:Int)+1)])
  (o:Below (gs+1) w7 WZ) (s:∀k,k<w7.heap.size->k≠gs+1->WZ.heap[k]?=w7.heap[k]?) (Z:wk.heap.size<=w5.heap.size) (V:w4.heap.size<=wk.heap.size) (hI:zi w7 (fun b=>w5.heap.size<=b) (.slice A6 S.length c6) S) (J:S=Dl m ch tn):
  DN w gx (0,.node tn (Dl m ch tn) [],k+1) (.returned (.agg #[.int .i64 tn,.slice A6 S.length c6,.slice none 0 0])) WZ:=by
 have hz:=zd L;have hx:=zd I;have U:=z.size;refine ⟨zu.trans G (zu.trans (zu.of_ext (X:=fun b=>b=gs+1) z) ⟨o.os,o.tape,o.output,o.size,fun b D T=>s b D T⟩ (fun _ _ h=>h)) (fun k h1 h2=>by omega),.inl ⟨rfl,_,rfl,?_,?_⟩⟩
 ·rw [<-J];exact .mk (cs:=[]) ((hI.keep (fun b D E=>s b E (by omega))).weaken (fun b D=>by have:=G.size;omega)) ⟨none,0,rfl,EN _,zN.nil _ _ _ _⟩ (fun i Q=>absurd Q (by simp))
 ·have h1:=I.ext z;have h2:zg WZ gx 137 #[.int .i64 ((k:Int)+1)]:=(s gx (zd h1) (by omega)).trans h1
  rwa [show ((k:Int)+1)=((k+1:Nat):Int) from by omega] at h2
theorem prove_fin2 {c kk:Nat} {vk:Value} {acc:List PT} {cs:List Value} (E:zu (fun b=>b=gx) w w6) (J:zu (fun b=>b=gx\/b=gp) w6 wr) (O:gp<w6.heap.size/\gx<gs/\gs+1<gp) (L:gs=w.heap.size)
  (G:zg wr gx 137 #[.int .i64 kk]) (I:Cd wr w6.heap.size vk acc cs) (o:Below (gs+1) wr WZ) (s:∀k,k<wr.heap.size->k≠gs+1->WZ.heap[k]?=wr.heap[k]?):
  DN w gx (0,.node c [] acc,kk) (.returned (.agg #[.int .i64 c,.slice none 0 0,vk])) WZ:=by
 refine ⟨zu.trans (X':=fun b=>b=gx\/b=gp\/b=gs+1) E (zu.trans (J.wide (fun k h=>by omega)) (⟨o.os,o.tape,o.output,o.size,fun b z M=>s b z M⟩:zu (fun b=>b=gs+1) wr WZ) (fun k _ h=>.inr (.inr h))) (fun k h1 h2=>by omega),.inl ⟨rfl,_,rfl,?_,?_⟩⟩
 ·refine (I.kids c).keepW (fun b z D=>s b D (by omega)) fun b z=>?_;have:=E.size;omega
 ·exact (s gx (zd G) (by omega)).trans G
theorem prove_fin3 {w8:World} {r x:Int×PT×Nat} (z:zu (fun b=>b=gx) w w6) (D:zu (fun b=>b=gx\/b=gp) w6 wr) (G:gp<w6.heap.size/\gx<gs/\gs+1<gp) (E:gs=w.heap.size) (s:zu (fun b=>b=gx) wr w8) (o:x.1=r.1) (h:r.1≠0):
  DN w gx x (.panicked [{ v:=.iface 38 (.int .i64 r.1),recovered:=false }]) w8:=
 ⟨zu.trans z (zu.trans D (s.wide (X':=fun b=>b=gx\/b=gp) (fun k h=>.inl h)) (fun _ _ h=>h)) (fun k h1 h2=>by omega),.inr ⟨by rw [o];exact h,by rw [o]⟩⟩
theorem headP_len {t:Nat} (s:Lens m) (o:t<m.tasks.length):(BP m ch t).length<=20000000000000:=by
 unfold BP
 split
 ·cases ((zv m ch).getD t []).getLast? <;> simp
 ·refine EP (Fr _ _) ?_;rw [EM,EL o];have:=(s.tl _ (EO o)).1;show (m.tasks[t]).1.length<=_;omega
theorem prove_calls {m:MZ} {f u ts:Value} (hl:Lens m) (hc:AY m=0):
  ∀(fl:Nat) (ch:List Int) (k gx:Nat) (ok:Nat->Prop) (vc vp:Value) (w:World),PSt w ok m f u ts vc vp ch->zC m ch->m.n.toNat+2<=fl+ch.length->k<=3000->zg w gx 137 #[.int .i64 k]->(∀b,ok b->b≠gx)->
   Calls Tryz.prog 101 #[.pointer (some ⟨gx,0,none⟩),stv m f u ts vc vp (AD m ch)] w (DN w gx (zG m fl ch k))
 | 0,ch,k,gx,ok,vc,vp,w,_,hi,hf,_,_,_=>by
  have:=hi.len (zI.of hc);omega
 | fl+1,ch,k,gx,ok,vc,vp,w,h,hi,hf,hk,hx,z6=>by
  have H:=zh h;have HL:=zh hl;have HC:=zh hc;have HI:=zh hi;have HF:=zh hf;have HK:=zh hk;have HX:=zh hx;have j1:=zh z6;have IH:=zh (prove_calls (f:=f) (u:=u) (ts:=ts) hl hc fl);obtain ⟨Af,cf,Au,cu,At,ct,Ac,cc,Ap,cp,rfl,rfl,rfl,rfl,rfl,-,-⟩:=h.parts;obtain ⟨PL,hP⟩:=zak ((zv m ch).length);rw [<-hP] at H⊢;clear h hl hc hi hP hf hk z6;obtain ⟨c,q3⟩:=zak (AD m ch);rw [<-q3];have b2:=zh q3;clear q3 hx;unfold stv
  go_enter Tryz.func101,Tryz.ntmps101
  go_upto_region 1 with fail;have l7:=zg.new w #[.int .i64 m.w,.int .i64 m.h,.int .i64 m.l,.slice Af m.free.length cf,.slice Au m.up.length cu,.slice At m.tasks.length ct,.slice Ac ch.length cc,.slice Ap PL cp,.int .i64 c] 103 (g:=w.heap.size) rfl;have m0:zb w (w.alloc (.cells #[.int .i64 m.w,.int .i64 m.h,.int .i64 m.l,.slice Af m.free.length cf,.slice Au m.up.length cu,.slice At m.tasks.length ct,.slice Ac ch.length cc,.slice Ap PL cp,.int .i64 c] 103)):=(zb.refl w).alloc _;have l0:(w.alloc (.cells #[.int .i64 m.w,.int .i64 m.h,.int .i64 m.l,.slice Af m.free.length cf,.slice Au m.up.length cu,.slice At m.tasks.length ct,.slice Ac ch.length cc,.slice Ap PL cp,.int .i64 c] 103)).heap.size=w.heap.size+1:=by simp
  generalize w.alloc _=w1 at l7 m0 l0⊢;have D:=zg.new w1 #[.int .i64 0,.slice none 0 0,.slice none 0 0] 37 (g:=w1.heap.size) rfl;have k2:zb w1 (w1.alloc (.cells #[.int .i64 0,.slice none 0 0,.slice none 0 0] 37)):=(zb.refl w1).alloc _;generalize w1.alloc _=w2 at D k2⊢;rw [l0] at D;obtain ⟨gs,m1⟩:=zak w.heap.size;rw [<-m1] at l7 D⊢;have f1:Hid (gs=w.heap.size):=m1;have i9:Hid (gx<gs):=by show _<_;rw [m1];exact zd HX.out
  have HZ:=zh D;have b0:=zh (l7.ext k2);have C0:=zh ((HX.out.ext m0).ext k2);have l6:=zh (m0.trans k2);clear l7 m0 l0 D k2 m1;have c0:=b0.out.cell (k:=0) rfl;have c1:=b0.out.cell (k:=1) rfl;have c2:=b0.out.cell (k:=2) rfl;have c3:=b0.out.cell (k:=3) rfl;have c4:=b0.out.cell (k:=4) rfl;have c5:=b0.out.cell (k:=5) rfl;have c6:=b0.out.cell (k:=6) rfl;have c7:=b0.out.cell (k:=7) rfl;have c8:=b0.out.cell (k:=8) rfl;have s6:Hid (Calls Tryz.prog 90 #[.agg #[.int .i64 m.w,.int .i64 m.h,.int .i64 m.l,.slice Af m.free.length cf,.slice Au m.up.length cu,.slice At m.tasks.length ct,.slice Ac ch.length cc,.slice Ap PL cp,.int .i64 c]] w2 fun e w'=>e=.returned (.bool (decide ((m.tasks.length:Int)<=(c:Int))))/\zb w2 w'):=pcomplete_calls c w2 (H.out.more l6.out)
  go_wp2_with fail
  refine s6.out.mono ?_;rintro e w3 ⟨rfl,x4⟩;have i0:=zh x4;clear x4 c0 c1 c2 c3 c4 c5 c6 c7 c8 s6;by_cases n8:m.tasks.length<=c
  ·have hd:decide ((m.tasks.length:Int)<=(c:Int))=true:=EQ (by omega);rw [hd]
   go_wp2_with fail
   refine ⟨rfl,?_⟩;have hp:zG m (fl+1) ch k=(51,.zero,k):=proveP_end (by rw [<-b2.out];exact n8);rw [hp];exact ⟨zu.of_ext (l6.out.trans i0.out),.inr ⟨by simp,rfl⟩⟩
  ·have hd:decide ((m.tasks.length:Int)<=(c:Int))=false:=ER (by omega);rw [hd];have e0:Hid (¬ m.tasks.length<=AD m ch):=by show ¬ _;rw [<-b2.out];exact n8
   have j4:=zh (C0.out.ext i0.out);have x0:w3.cell? ⟨gx,0,none⟩=some (.int .i64 k):=j4.out.cell (k:=0) rfl;have C7:=j4.out.frozen 0;have C9:IntKind.i64.wrap ((k:Int)+1)=(k:Int)+1:=by rw [Fi];have:=HK.out;omega
   clear hd;go_upto_region 4 with fail;have p8:=j4.out.set (k:=0) (.int .i64 ((k:Int)+1));have e6:=(b0.out.ext i0.out).setOther (a:=⟨gx,0,none⟩) (by have:=i9.out;show gs≠gx;omega) (.int .i64 ((k:Int)+1));have p9:=(HZ.out.ext i0.out).setOther (a:=⟨gx,0,none⟩) (by have:=i9.out;show gs+1≠gx;omega) (.int .i64 ((k:Int)+1));have l9:Ao (fun b=>b≠gx) w3 (w3.setCell ⟨gx,0,none⟩ (.int .i64 ((k:Int)+1))):=fun b hb _=>EW w3 ⟨gx,0,none⟩ _ b hb
   have p5:zu (fun b=>b=gx) w (w3.setCell ⟨gx,0,none⟩ (.int .i64 ((k:Int)+1))):=zu.trans (zu.of_ext (X:=fun b=>b=gx) (l6.out.trans i0.out)) ⟨rfl,rfl,rfl,by simp,fun b _ hb=>EW w3 ⟨gx,0,none⟩ _ b hb⟩ (fun _ _ h=>h);generalize w3.setCell ⟨gx,0,none⟩ (.int .i64 ((k:Int)+1))=w4 at p8 e6 p9 l9 p5⊢;have f7:Hid (zg w4 gx 137 #[.int .i64 ((k:Int)+1)]):=p8;have l2:=zh e6;have i4:=zh p9;have E5:=zh l9;have T:=zh p5;have o7:Hid (PSt w4 ok m (.slice Af m.free.length cf) (.slice Au m.up.length cu) (.slice At m.tasks.length ct) (.slice Ac ch.length cc) (.slice Ap PL cp) ch):=((H.out.more l6.out).more i0.out).keep (fun b hb M=>l9 b (j1.out b hb) M);have y0:w4.cell? ⟨gx,0,none⟩=some (.int .i64 ((k:Int)+1)):=f7.out.cell (k:=0) rfl;clear p8 e6 p9 l9 p5 x0 C7;by_cases d6:3000<k+1
   ·have z4:(3000:Int)<(k:Int)+1:=by omega
    go_wp2_with fail
    refine ⟨rfl,?_⟩;rw [proveP_many e0.out d6];exact ⟨T.out,.inr ⟨by simp,rfl⟩⟩
   ·have z4:¬ ((3000:Int)<(k:Int)+1):=by omega
    have c8:=l2.out.cell (k:=8) rfl;go_upto_region 7 with fail;have p3:Hid (zg (w4.alloc (.cells #[.int .i64 c] 3)) w4.heap.size 3 #[.int .i64 c]):=zg.new _ _ _ rfl;have I:Hid (zb w4 (w4.alloc (.cells #[.int .i64 c] 3))):=(zb.refl w4).alloc _;generalize w4.alloc _=w5 at p3 I⊢;have A4:Hid (c<=m.tasks.length):=by show _<=_;have:=e0.out;have:=b2.out;omega
    have i1:Hid (m.tasks.length<=6/\ch.length<=300):=⟨(BQ HC.out HI.out).2.1,(BQ HC.out HI.out).2.2.1⟩;clear y0 c8 C9 z4;go_loopw [5] (fun v wr=>∃tn g5:Nat,v=.pointer (some ⟨g5,0,none⟩)/\c<=tn/\tn<=m.tasks.length/\Hid (∀j,c<=j->j<tn->offB m ch j=false)/\Hid (w4.heap.size<=g5)/\Hid (zg wr g5 3 #[.int .i64 tn])/\Hid (zb w4 wr)) (fun v wr=>match v with | .pointer (some a)=>(match wr.cell? a with | some (.int _ i)=>m.tasks.length - i.toNat | _=>0) | _=>0)
    case atStart=>exact ⟨c,w4.heap.size,rfl,EN _,A4.out,fun j h1 h2=>(by omega),EN _,p3.out,I.out⟩
    clear p3 I
    case round=>
     obtain ⟨tn,g5,rfl,s0,D1,b9,g3,y5,hE⟩:=hrel;obtain ⟨wk,rfl⟩:∃wk:World,wk=wr:=⟨_,rfl⟩;have b1:=zh (l2.out.ext hE.out);have f6:=zh (o7.out.more hE.out);have ct0:wk.cell? ⟨g5,0,none⟩=some (.int .i64 tn):=y5.out.cell (k:=0) rfl;have r0:=zb.rule (b1.out.cell (k:=0) rfl);have r1:=zb.rule (b1.out.cell (k:=1) rfl);have r2:=zb.rule (b1.out.cell (k:=2) rfl);have r3:=zb.rule (b1.out.cell (k:=3) rfl);have r4:=zb.rule (b1.out.cell (k:=4) rfl);have r5:=zb.rule (b1.out.cell (k:=5) rfl);have r6:=zb.rule (b1.out.cell (k:=6) rfl);have r7:=zb.rule (b1.out.cell (k:=7) rfl);have r8:=zb.rule (b1.out.cell (k:=8) rfl);have rt:=zb.rule ct0;have F1:zb wk wk:=zb.refl wk;by_cases M:tn<m.tasks.length
     ·have n9:(tn:Int)<(m.tasks.length:Int):=by omega
      go_upto_region 9 with fail;refine Fd (S:=(fun W=>zb wk W)) zU ((zb.refl wk).drew) fun zH=>?_;have p6:zb wk wk.drew:=zH;have B0:Hid ((BP m ch tn).length<=20000000000000):=headP_len HL.out M;generalize wk.drew=wd at zH p6⊢;refine ze 0 zH ?_;refine ze 1 zH ?_;simp only [za,EK];refine ze 2 zH ?_;refine ze 3 zH ?_;simp only [za,EK];refine ze 4 zH ?_;refine ze 6 zH ?_;simp only [za,EK];refine ze 7 zH ?_;simp only [za,EK];refine zx 5 fun K o=>?_;go_simp;go_at_call 116;refine (phead_calls c tn wd (f6.out.more p6) HL.out HC.out HI.out M).mono ?_;rintro e w5 ⟨v5,rfl,f8,x5⟩;have I:Hid (zb wk w5):=p6.trans f8;have B1:=zh x5;obtain ⟨A5,c5,rfl,-,-⟩:=x5;clear f8;refine zal o (I.out) fun zH=>?_;clear o K;try simp only [za,EK]
      refine zx 8 fun K o=>?_;go_simp;go_at_call 25;refine (rReach_calls tn w5 (f6.out.more I.out).maze HL.out B1.out B0.out (f6.out.more I.out).chs (by have:=i1.out;omega)).mono ?_;rintro e w6 ⟨v6,rfl,f9⟩;have U:Hid (zb wk w6):=I.out.trans f9.ext;have f2:Hid (zi w6 (fun b=>w5.heap.size<=b) v6 (Dl m ch tn)):=f9.ints;obtain ⟨A6,c6,rfl,-,-⟩:=f2.out;clear f9;refine zal o (U.out) fun zH=>?_;clear o K;try simp only [za,EK]
      refine zx 9 fun K o=>?_;go_simp;refine zal o (U.out) fun zH=>?_;clear o K;try simp only [za,EK]
      refine Fs (by kernel_rfl) ?_ _;have m2:=U.out;have E9:∀(fn:Fn) (first cap:Array Value) (w:World),(Instr.makeFunc fn first cap).run Tryz.prog w=.ok (.func fn first cap) w:=fun _ _ _ _=>rfl
      have v8:Hid ((Dl m ch tn).length<=20000000000000):=by show _<=_;rw [sideP_eq HC.out M];exact reachL_le _ _ _ _ (zI.of HC.out)
      obtain ⟨S,hS⟩:=zak (Dl m ch tn);rw [<-hS] at f2 v8⊢;have o9:=zh hS;clear hS
      have B9:Hid (∀x W,zb w6 W->Calls Tryz.prog 125 #[.int .i64 x,.pointer (some ⟨gs,0,none⟩),.pointer (some ⟨g5,0,none⟩)] W fun e w'=>e=.returned (.bool (decide (x∈(m.tasks.getD tn ([],[])).2)))/\W=w'):=fun x W hW=>by
       obtain ⟨_,_,_,_,_,_,_,_,_,_,_,_,e,_,_,_,D2⟩:=(f6.out.more (m2.trans hW)).parts;injection e with e1 e2 e3;subst e1 e3;exact prove1_calls x W (r5 W (m2.trans hW)) (rt W (m2.trans hW)) D2 HL.out M
      have E4:Hid (∀W,zb wk W->W.cell? ⟨g5,0,none⟩=some (.int .i64 tn)):=rt;have E3:Hid (∀W,zb wk W->W.cell? ⟨gs,8,none⟩=some (.int .i64 c)):=r8
      go_wp2_with fail
      refine (Bh 125 #[.pointer (some ⟨gs,0,none⟩),.pointer (some ⟨g5,0,none⟩)] (fun x=>decide (x∈(m.tasks.getD tn ([],[])).2)) w6 f2.out v8.out (Bi (P:=Tryz.prog) Tryz.func125 (by kernel_rfl) (by kernel_rfl)) (fun x _ W hW=>(B9.out x W hW.ext).mono (fun e w' ⟨h1,h2⟩=>⟨h1,by rw [h2];exact zM.refl _⟩))).mono ?_;rintro e w7 ⟨rfl,q5⟩;have A7:Hid (zb wk w7):=U.out.trans q5.ext;have b6:=A7.out;have s9:=zh (f2.out.below q5.ext);obtain ⟨b,hb⟩:=zak (S.any fun x=>decide (x∈(m.tasks.getD tn ([],[])).2))
      rw [<-hb]
      have l5:Hid (offB m ch tn=(!b && (decide (S≠[]) || decide (c<tn)))):=by
       show _=_;unfold offB;rw [hb,o9.out,b2.out]
      clear hb q5 m2;have ct8:=rt w7 b6;have z8:=b6
      cases b with
      | true=>
       have d5:Hid (offB m ch tn=false):=by show _=_;rw [l5.out];rfl
       have HN:Hid (∀j,c<=j->j<tn+1->offB m ch j=false):=fun j h1 h2=>by
        rcases Fk j tn with h | h
        ·exact b9.out j h1 h
        ·obtain rfl:j=tn:=by omega
         exact d5.out
       have D3:IntKind.i64.wrap ((tn:Int)+1)=(tn:Int)+1:=by rw [Fi];have:=i1.out;omega
       clear d5
       go_wp2_with fail
       have k3:zg (w7.alloc (.cells #[.int .i64 ((tn:Int)+1)] 3)) w7.heap.size 3 #[.int .i64 ((tn+1:Nat):Int)]:=by have h:=zg.new w7 #[.int .i64 ((tn:Int)+1)] 3 (g:=w7.heap.size) rfl;rwa [show ((tn:Int)+1)=((tn+1:Nat):Int) from by omega] at h⊢
       have o4:=zh k3;have i5:=zh ((hE.out.trans b6).alloc (.cells #[.int .i64 ((tn:Int)+1)] 3));have q9:Hid (w4.heap.size<=w7.heap.size):=(hE.out.trans b6).size;have q4:Hid ((w7.alloc (.cells #[.int .i64 ((tn:Int)+1)] 3)).cell? ⟨w7.heap.size,0,none⟩=some (.int .i64 ((tn:Int)+1))):=zr _ _ _ rfl;have k4:Hid (wk.cell? ⟨g5,0,none⟩=some (.int .i64 tn)):=ct0;clear k3;go_roundw
       case rel=>exact ⟨tn+1,w7.heap.size,rfl,by omega,by omega,HN,q9,o4,i5⟩
       case measure=>
        simp only [q4.out,k4.out];omega
      | false=>
       by_cases hs:0<S.length
       ·have l0:(0:Int)<(S.length:Int):=by omega
        have d5:Hid (offB m ch tn=true):=by
         show _=_;rw [l5.out,EQ (by rintro rfl;simp at hs:S≠[])];rfl
        have ct7:=ct8;have D:zg w7 (gs+1) 37 #[.int .i64 0,.slice none 0 0,.slice none 0 0]:=(i4.out.ext hE.out).ext b6;have z0:=D.cell (k:=0) rfl;have z1:=D.cell (k:=1) rfl;have z2:=D.cell (k:=2) rfl;have hfz:∀j,w7.frozen? ⟨gs+1,j,none⟩=false:=fun j=>D.frozen j
        have i7:=zh D;clear D
        go_wp2_with fail
        refine CY (P:=fun W=>bodyPost Tryz.prog Tryz.f101 _ Exit.ret _ W) (g2:=gs+1) ?_ i7.out;intro WZ a8 j7 a9;have y0:=a8.cell (k:=0) rfl;have y1:=a8.cell (k:=1) rfl;have y2:=a8.cell (k:=2) rfl;refine FK (v:=.agg #[.int .i64 tn,.slice A6 S.length c6,.slice none 0 0]) (by simp [results,Tryz.results101,go_sem,y0,y1,y2]) rfl ?_;rw [proveP_cut e0.out d6 (cutT_at (by rw [<-b2.out];exact s0) M d5.out (fun j h1 h2=>b9.out j (by rw [b2.out];exact h1) h2))];exact prove_fin f1.out i9.out T.out (hE.out.trans b6) i4.out f7.out j7 a9 I.out.size hE.out.size s9.out o9.out
       ·have l0:¬ ((0:Int)<(S.length:Int)):=by omega
        have r9:S=[]:=Fe (by omega);by_cases y7:c<tn
        ·have y8:(c:Int)<(tn:Int):=by omega
         have d5:Hid (offB m ch tn=true):=by
          show _=_;rw [l5.out,EQ y7,Bool.or_true];rfl
         clear r9;have ct7:=ct8;have D:zg w7 (gs+1) 37 #[.int .i64 0,.slice none 0 0,.slice none 0 0]:=(i4.out.ext hE.out).ext b6;have z0:=D.cell (k:=0) rfl;have z1:=D.cell (k:=1) rfl;have z2:=D.cell (k:=2) rfl;have hfz:∀j,w7.frozen? ⟨gs+1,j,none⟩=false:=fun j=>D.frozen j
         have i7:=zh D;clear D
         go_wp2_with fail
         refine CY (P:=fun W=>bodyPost Tryz.prog Tryz.f101 _ Exit.ret _ W) (g2:=gs+1) ?_ i7.out;intro WZ a8 j7 a9;have y0:=a8.cell (k:=0) rfl;have y1:=a8.cell (k:=1) rfl;have y2:=a8.cell (k:=2) rfl;refine FK (v:=.agg #[.int .i64 tn,.slice A6 S.length c6,.slice none 0 0]) (by simp [results,Tryz.results101,go_sem,y0,y1,y2]) rfl ?_;rw [proveP_cut e0.out d6 (cutT_at (by rw [<-b2.out];exact s0) M d5.out (fun j h1 h2=>b9.out j (by rw [b2.out];exact h1) h2))];exact prove_fin f1.out i9.out T.out (hE.out.trans b6) i4.out f7.out j7 a9 I.out.size hE.out.size s9.out o9.out
        ·have y8:¬ ((c:Int)<(tn:Int)):=by omega
         have d5:Hid (offB m ch tn=false):=by
          show _=_;rw [l5.out,ER (by simp [r9]),ER y7];rfl
         clear r9
         have HN:Hid (∀j,c<=j->j<tn+1->offB m ch j=false):=fun j h1 h2=>by
          rcases Fk j tn with h | h
          ·exact b9.out j h1 h
          ·obtain rfl:j=tn:=by omega
           exact d5.out
         have D3:IntKind.i64.wrap ((tn:Int)+1)=(tn:Int)+1:=by rw [Fi];have:=i1.out;omega
         clear d5
         go_wp2_with fail
         have k3:zg (w7.alloc (.cells #[.int .i64 ((tn:Int)+1)] 3)) w7.heap.size 3 #[.int .i64 ((tn+1:Nat):Int)]:=by have h:=zg.new w7 #[.int .i64 ((tn:Int)+1)] 3 (g:=w7.heap.size) rfl;rwa [show ((tn:Int)+1)=((tn+1:Nat):Int) from by omega] at h⊢
         have o4:=zh k3;have i5:=zh ((hE.out.trans b6).alloc (.cells #[.int .i64 ((tn:Int)+1)] 3));have q9:Hid (w4.heap.size<=w7.heap.size):=(hE.out.trans b6).size;have q4:Hid ((w7.alloc (.cells #[.int .i64 ((tn:Int)+1)] 3)).cell? ⟨w7.heap.size,0,none⟩=some (.int .i64 ((tn:Int)+1))):=zr _ _ _ rfl;have k4:Hid (wk.cell? ⟨g5,0,none⟩=some (.int .i64 tn)):=ct0;clear k3;go_roundw
         case rel=>exact ⟨tn+1,w7.heap.size,rfl,by omega,by omega,HN,q9,o4,i5⟩
         case measure=>
          simp only [q4.out,k4.out];omega
     ·have n9:¬ ((tn:Int)<(m.tasks.length:Int)):=by omega
      have s7:Hid (cutT m ch=none):=cutT_no (fun j h1 h2=>b9.out j (by rw [b2.out];exact h1) (by omega));have l4:=zh hE.out;clear b9 g3 y5 s0 D1 M hE;go_upto_region 15 with fail;have l8:=zg.new wk #[.int .i64 c,.slice none 0 0,.slice none 0 0] 37 (g:=wk.heap.size) rfl;have f8:zb wk (wk.alloc (.cells #[.int .i64 c,.slice none 0 0,.slice none 0 0] 37)):=(zb.refl wk).alloc _;generalize wk.alloc _=w5 at l8 f8⊢;obtain ⟨gp,q6⟩:=zak wk.heap.size;rw [<-q6] at l8⊢;have C4:Hid (gs+1<gp):=by show _<_;rw [q6];exact Fq (zd i4.out) l4.out.size
      have s4:=zh l8;have I:=zh f8;have D4:=f8;clear l8 q6 f8
      go_wp2_with fail
      refine (rCandidates_calls w5 (f6.out.more I.out).maze HL.out (f6.out.more I.out).chs (by have:=i1.out;omega)).mono ?_;rintro e w6 ⟨v6,rfl,f9⟩;have x6:(AK m ch).length<=400000000000:=by unfold AK;split;exact DO HL.out ch;simp
      have t1:Hid (∀n∈AK m ch,zC m (ch++[n])):=fun n hn=>by
       have:AK m ch=Bw m ch:=by unfold AK;rw [if_pos (okC_of HC.out HI.out)]
       rw [this] at hn;exact .snoc HI.out hn
      have f2:=zh f9.ints;have U:=zh f9.ext;have i2:Hid (zG m (fl+1) ch k=if (AJ (fun n k=>zG m fl (ch++[n]) k) (AK m ch) (k+1) []).1=0 then (0,.node (AD m ch) [] (AJ (fun n k=>zG m fl (ch++[n]) k) (AK m ch) (k+1) []).2.1,(AJ (fun n k=>zG m fl (ch++[n]) k) (AK m ch) (k+1) []).2.2) else ((AJ (fun n k=>zG m fl (ch++[n]) k) (AK m ch) (k+1) []).1,.zero,(AJ (fun n k=>zG m fl (ch++[n]) k) (AK m ch) (k+1) []).2.2)):=proveP_kids e0.out d6 s7.out;obtain ⟨L,hL⟩:=zak (AK m ch);rw [<-hL] at t1 f2 i2 x6;clear f9 hL;obtain ⟨F,hF⟩:∃F:Int->Nat->Int×PT×Nat,F=fun n k=>zG m fl (ch++[n]) k:=⟨_,rfl⟩
      rw [<-hF] at i2;have o6:=zh hF;clear hF D4 ct0 rt r0 r1 r2 r3 r4 r5 r6 r7 r8 n9;obtain ⟨AL,cL,rfl,-,z7⟩:=f2.out;have B8:=zh z7;clear z7
      have C2:Hid (zg w6 gx 137 #[.int .i64 ((k+1:Nat):Int)]):=by
       have h:=((f7.out.ext l4.out).ext I.out).ext U.out
       rwa [show ((k:Int)+1)=((k+1:Nat):Int) from by omega] at h
      have A3:=zh ((b1.out.ext I.out).ext U.out);have t9:=zh (s4.out.ext U.out);have C3:=zh (((i4.out.ext l4.out).ext I.out).ext U.out);have E6:=zh ((f6.out.more I.out).more U.out);have i3:Hid (zu (fun b=>b=gx) w w6):=T.out.trans (zu.of_ext (X:=fun b=>b=gx) ((l4.out.trans I.out).trans U.out)) (fun _ _ h=>h);have s:Hid (gp<w6.heap.size/\gx<gs/\gs+1<gp):=⟨zd t9.out,i9.out,C4.out⟩
      go_wp2_with fail
      have x7:=x6;have B2:Hid (k+1<=3000):=by show _<=_;omega
      have B3:Hid (Cd w6 w6.heap.size (.slice none 0 0) [] []):=Cd.nil _ _;clear x7;go_loopw [73] (fun v wr=>∃(j kk:Nat) (acc:List PT) (vk:Value) (cs:List Value),v=.int .i64 j/\j<=L.length/\Hid (acc.length=j)/\Hid (kk<=3000)/\Hid (AJ F L (k+1) []=AJ F (L.drop j) kk acc)/\Hid (zu (fun b=>b=gx\/b=gp) w6 wr)/\Hid (zg wr gx 137 #[.int .i64 kk])/\Hid (zg wr gp 37 #[.int .i64 c,.slice none 0 0,vk])/\Hid (Cd wr w6.heap.size vk acc cs)) (fun v _=>L.length - (intOf v).toNat)
      case atStart=>exact ⟨0,k+1,[],.slice none 0 0,[],rfl,Fb _,rfl,B2.out,rfl,zu.refl _ _,C2.out,t9.out,B3.out⟩
      case round=>
       obtain ⟨j,kk,acc,vk,cs,rfl,hj,G,a9,f0,z,g0,a7,E⟩:=hrel;obtain ⟨wk',rfl⟩:∃wk':World,wk'=wr:=⟨_,rfl⟩;by_cases h9:j<L.length
       ·have E8:(0:Int)<=(j:Int):=by omega
        have C8:(j:Int)<(L.length:Int):=by omega
        obtain ⟨bl,offl,rfl,y4,n7⟩:=zy B8.out h9 h9;have E1:Hid (w5.heap.size<=bl):=y4;have A9:Hid (gp<w5.heap.size):=zd s4.out;have y6:wk'.cell? ⟨bl,offl+j,none⟩=some (.int .i64 L[j]):=z.out.cellk n7 (by have:=s.out;have:=A9.out;show ¬ (bl=gx\/bl=gp);omega);have b3:Hid (zC m (ch++[L[j]])):=t1.out _ (EO h9);have d9:Hid (L.drop j=L[j] :: L.drop (j+1)):=List.drop_eq_getElem_cons h9;obtain ⟨n,hn⟩:=zak (L[j]);rw [<-hn] at y6 b3 d9;have b5:=A3.out
        have v7:Hid (PSt wk' ok m (.slice Af m.free.length cf) (.slice Au m.up.length cu) (.slice At m.tasks.length ct) (.slice Ac ch.length cc) (.slice Ap PL cp) ch):=H.out.keep (fun b hb M=>by
         have h1:=j1.out b hb;have h2:=s.out;have h3:=f1.out;exact (z.out.block b (Fq M i3.out.size) (by omega)).trans (i3.out.block b M h1))
        have rul:∀{i:Nat} {v:Value},w6.cell? ⟨gs,i,none⟩=some v->∀W,zu (fun b=>b=gx\/b=gp) w6 W->W.cell? ⟨gs,i,none⟩=some v:=fun h W hW=>hW.cellk h (by have:=s.out;show ¬ (gs=gx\/gs=gp);omega)
        have r0:=rul (b5.cell (k:=0) rfl);have r1:=rul (b5.cell (k:=1) rfl);have r2:=rul (b5.cell (k:=2) rfl);have r3:=rul (b5.cell (k:=3) rfl);have r4:=rul (b5.cell (k:=4) rfl);have r5:=rul (b5.cell (k:=5) rfl);have r6:=rul (b5.cell (k:=6) rfl);have r7:=rul (b5.cell (k:=7) rfl);have r8:=rul (b5.cell (k:=8) rfl);obtain ⟨wq,rfl⟩:∃wq:World,wq=wk':=⟨_,rfl⟩;clear rul b5 n7 y4 hn;go_upto_region 18 with fail;clear y6;refine Fd (S:=(fun W=>zu (fun b=>b=gx\/b=gp) w6 W)) zU (zu.trans z.out (zu.of_ext (X:=fun b=>b=gx\/b=gp) (zb.refl wq).drew) (fun _ _ h=>h)) fun zH=>?_;have b4:Hid (zb wq wq.drew):=(zb.refl wq).drew;generalize wq.drew=wd at zH b4⊢;refine ze 0 zH ?_;refine ze 2 zH ?_;simp only [za,EK];refine ze 3 zH ?_;refine ze 4 zH ?_;simp only [za,EK];refine rdA [1,5] ?_;refine Fp rfl (fun K o=>?_) ?_
        ·have cg1:wd.cell? ⟨gp,2,none⟩=some vk:=zu.cellk (zu.of_ext (X:=fun b=>b=gx) b4.out) (a7.out.cell (k:=2) rfl) (by have:=s.out;show ¬ (gp=gx);omega);go_simp;clear cg1;refine zal o (zu.trans z.out (zu.wide (zu.of_ext (X:=fun b=>b=gx) b4.out) (X':=fun b=>b=gx\/b=gp) (fun k h=>.inl h)) (fun _ _ h=>h)) fun zH=>?_;clear o K;try simp only [za,EK]
         refine zx 5 fun K o=>?_;go_simp;go_at_call 93;refine (pnext_calls c n wd (v7.out.more b4.out) HL.out HC.out b3.out i1.out.2).mono ?_;rintro e w2 ⟨vc2,vp2,rfl,x3,x8⟩;have i8:Hid (zb wq w2):=b4.out.trans x3;have B6:=zh x8;clear x3 x8;refine zal o (zu.trans z.out (zu.wide (zu.of_ext (X:=fun b=>b=gx) i8.out) (X':=fun b=>b=gx\/b=gp) (fun k h=>.inl h)) (fun _ _ h=>h)) fun zH=>?_;clear o K;try simp only [za,EK]
         refine zx 6 fun K o=>?_;go_simp;go_at_call 101;refine (IH.out (ch++[n]) kk gx _ vc2 vp2 w2 B6.out b3.out (by have:=HF.out;rw [EV,Fo];omega) a9.out (i8.out.cellB g0.out) (fun b hb=>by have h1:=j1.out;have h2:=b4.out.size;have h3:=zd g0.out;rcases hb with hb | hb;exact h1 b hb;omega)).mono ?_;obtain ⟨r3,q8⟩:∃r:Int×PT×Nat,r=zG m fl (ch++[n]) kk:=⟨_,rfl⟩;rw [<-q8];have o8:=zh q8;have g9:Hid (F n kk=r3):=by (show _=_);rw [o6.out];exact o8.out.symm
         clear q8;rintro e w3 ⟨p4,(⟨h0,v3,rfl,p7,y3⟩ | ⟨h0,rfl⟩)⟩
         rotate_left
         ·go_wp2;refine ⟨rfl,?_⟩;exact prove_fin3 (x:=zG m (fl+1) ch k) i3.out z.out s.out f1.out (zu.trans (zu.of_ext (X:=fun b=>b=gx) i8.out) p4 (fun _ _ h=>h)) (by rw [i2.out];exact (prove_err (F:=F) (n:=n) (l:=L.drop (j+1)) (k:=kk) (acc:=acc) (by rw [g9.out];exact h0) (f0.out.trans (by rw [d9.out]))).trans (by rw [g9.out])) h0
         have s5:Hid (zu (fun b=>b=gx) wq w3):=zu.trans (zu.of_ext (X:=fun b=>b=gx) i8.out) p4 (fun _ _ h=>h);obtain ⟨As3,cs3,Ak3,ck3,rfl,-⟩:=p7.form;have B7:=zh p7;have j4:=zh y3;have x2:=zh h0;have m8:Hid (wq.heap.size<=w2.heap.size):=i8.out.size;clear p4 p7 y3 h0;refine zal o (zu.trans z.out (zu.wide (s5.out) (X':=fun b=>b=gx\/b=gp) (fun k h=>.inl h)) (fun _ _ h=>h)) fun zH=>?_;clear o K;try simp only [za,EK]
         refine zx 7 fun K o=>?_;go_simp;have e6:=zg.new w3 #[.int .i64 r3.2.1.task,.slice As3 r3.2.1.side.length cs3,.slice Ak3 r3.2.1.kids.length ck3] 37 (g:=w3.heap.size) rfl;have hA4:zb w3 (w3.alloc (.cells #[.int .i64 r3.2.1.task,.slice As3 r3.2.1.side.length cs3,.slice Ak3 r3.2.1.kids.length ck3] 37)):=(zb.refl w3).alloc _;generalize w3.alloc _=w4 at e6 hA4⊢;generalize w3.heap.size=g4 at e6⊢;have l2:=zh e6;have T:Hid (zu (fun b=>b=gx) wq w4):=zu.trans (s5.out) (zu.of_ext (X:=fun b=>b=gx) hA4) (fun _ _ h=>h);have o7:=zh (B7.out.ext hA4);have f7:=zh (j4.out.ext hA4);clear e6 hA4;refine zal o (zu.trans z.out (zu.wide (T.out) (X':=fun b=>b=gx\/b=gp) (fun k h=>.inl h)) (fun _ _ h=>h)) fun zH=>?_;clear o K;try simp only [za,EK]
         refine zx 8 fun K o=>?_;have t0:Hid (Cd w4 w6.heap.size vk acc cs):=E.out.chg (T.out) (fun b hb e=>by have:=s.out;omega);refine zB (ok:=fun _=>True) (by rfl) w4 _ _ eProof (by rfl) w6.heap.size acc.length 1 cs _ vk _ (by rfl) (by rfl) t0.out.own (prv_row1 l2.out) (fun u hu=>by simp at hu;rcases hu with rfl | rfl | rfl <;> rfl) (by have h1:=z.out.size;have h2:=zu.size (T.out);omega) (by have:=G.out;unfold maxLen;omega) (by have:=G.out;omega) ?_;intro v5 w5 q7 g3 z9;have B5:=zh (show Cd w5 w6.heap.size _ (acc++[r3.2.1]) (cs++[.int .i64 r3.2.1.task,.slice As3 r3.2.1.side.length cs3,.slice Ak3 r3.2.1.kids.length ck3]) from t0.out.app (lo:=w2.heap.size) o7.out (fun k hk=>by have h1:=E.out.lt hk;have h2:=m8.out;omega) (by have h1:=z.out.size;have h2:=m8.out;omega) q7 g3 z9);have l3:Hid (zu (fun b=>b=gx\/b=gp) w6 w5):=zu.grown (zu.trans z.out (zu.wide (T.out) (X':=fun b=>b=gx\/b=gp) (fun k h=>.inl h)) (fun _ _ h=>h)) g3 (fun k hk M=>by have h1:=E.out.lt hk;omega);obtain ⟨A5,c5,e5,-,-⟩:=zV.of_own q7;subst e5;have j2:Hid (zg w5 gp 37 #[.int .i64 c,.slice none 0 0,vk]):=(g3.block gp (by have h1:=s.out.1;have h2:=z.out.size;have h3:=zu.size (T.out);omega) (fun e=>by have h1:=E.out.lt e.symm;have h2:=s.out;omega)).trans (zu.blk (T.out) a7.out (by have:=s.out;omega));have C1:Hid (zg w5 gx 137 #[.int .i64 r3.2.2]):=(g3.block gx (zd f7.out) (fun e=>by have h1:=E.out.lt e.symm;have h2:=s.out;omega)).trans f7.out;clear q7 g3 z9;refine zal o (l3.out) fun zH=>?_;clear o K;try simp only [za,EK]
         refine zx 9 fun K o=>?_;go_simp;refine zal o (l3.out) fun zH=>?_;clear o K;try simp only [za,EK]
         refine zx 10 fun K o=>?_;have cg7:=j2.out.cell (k:=2) rfl;have fg7:=j2.out.frozen 2;go_simp;clear cg7 fg7;refine zal o (zu.set (l3.out) gp 2 (.slice A5 (acc.length+1) c5) (.inr rfl)) fun zH=>?_;clear o K;try simp only [za,EK]
         refine Fs (by kernel_rfl) ?_ _;have a5:Hid (zu (fun b=>b=gx\/b=gp) w6 (w5.setCell ⟨gp,2,none⟩ (.slice A5 (acc.length+1) c5))):=zu.set (l3.out) gp 2 (.slice A5 (acc.length+1) c5) (.inr rfl);have J:Hid (zg (w5.setCell ⟨gp,2,none⟩ (.slice A5 (acc.length+1) c5)) gp 37 #[.int .i64 c,.slice none 0 0,(.slice A5 (acc.length+1) c5)]):=j2.out.set (k:=2) (.slice A5 (acc.length+1) c5);have a6:Hid (zg (w5.setCell ⟨gp,2,none⟩ (.slice A5 (acc.length+1) c5)) gx 137 #[.int .i64 r3.2.2]):=C1.out.setOther (a:=⟨gp,2,none⟩) (by have:=s.out;show gx≠gp;omega) (.slice A5 (acc.length+1) c5);have a4:=zh (B5.out.chg (zu.set (X:=fun b=>b=gp) (zu.refl _ w5) gp 2 (.slice A5 (acc.length+1) c5) rfl) (fun b hb e=>by have:=s.out;omega));generalize w5.setCell ⟨gp,2,none⟩ (.slice A5 (acc.length+1) c5)=wz at a5 J a6 a4⊢;have hF1:(F n kk).1=0:=by rw [g9.out];exact x2.out
         have a3:Hid (AJ F L (k+1) []=AJ F (L.drop (j+1)) r3.2.2 (acc++[r3.2.1])):=by (show _=_);rw [f0.out,d9.out,Eg hF1,g9.out]
         have Z:Hid (r3.2.2<=3000):=by (show _<=_);have h:=(DW HC.out fl (ch++[n]) kk b3.out a9.out (by rw [<-o8.out];exact x2.out)).2.2;rw [<-o8.out] at h;exact h
         clear hF1;go_wp2;go_roundw
         case rel=>exact ⟨j+1,_,_,_,_,by go_num,by omega,by (show _=_);rw [EV,G.out];rfl,Z.out,a3.out,a5.out,a6.out,J.out,a4.out⟩
         case measure=>simp [intOf];omega
        refine Fp rfl (fun K o=>?_) .nil;go_simp;go_at_call 93;refine (pnext_calls c n wd (v7.out.more b4.out) HL.out HC.out b3.out i1.out.2).mono ?_;rintro e w8 ⟨vc8,vp8,rfl,i5,x9⟩;have V:Hid (zb wq w8):=b4.out.trans i5;have v4:=zh x9;clear i5 x9;refine zal o (zu.trans z.out (zu.wide (zu.of_ext (X:=fun b=>b=gx) V.out) (X':=fun b=>b=gx\/b=gp) (fun k h=>.inl h)) (fun _ _ h=>h)) fun zH=>?_;clear o K;try simp only [za,EK]
        refine rdA [1,6] ?_;refine Fp rfl (fun K o=>?_) ?_
        ·have cg9:w8.cell? ⟨gp,2,none⟩=some vk:=zu.cellk (zu.of_ext (X:=fun b=>b=gx) V.out) (a7.out.cell (k:=2) rfl) (by have:=s.out;show ¬ (gp=gx);omega);go_simp;clear cg9;refine zal o (zu.trans z.out (zu.wide (zu.of_ext (X:=fun b=>b=gx) V.out) (X':=fun b=>b=gx\/b=gp) (fun k h=>.inl h)) (fun _ _ h=>h)) fun zH=>?_;clear o K;try simp only [za,EK]
         refine zx 6 fun K o=>?_;go_simp;go_at_call 101;refine (IH.out (ch++[n]) kk gx _ vc8 vp8 w8 v4.out b3.out (by have:=HF.out;rw [EV,Fo];omega) a9.out (V.out.cellB g0.out) (fun b hb=>by have h1:=j1.out;have h2:=b4.out.size;have h3:=zd g0.out;rcases hb with hb | hb;exact h1 b hb;omega)).mono ?_;obtain ⟨r10,k8⟩:∃r:Int×PT×Nat,r=zG m fl (ch++[n]) kk:=⟨_,rfl⟩;rw [<-k8];have j3:=zh k8;have c9:Hid (F n kk=r10):=by (show _=_);rw [o6.out];exact j3.out.symm
         clear k8;rintro e w10 ⟨j5,(⟨h0,v10,rfl,j8,n5⟩ | ⟨h0,rfl⟩)⟩
         rotate_left
         ·go_wp2;refine ⟨rfl,?_⟩;exact prove_fin3 (x:=zG m (fl+1) ch k) i3.out z.out s.out f1.out (zu.trans (zu.of_ext (X:=fun b=>b=gx) V.out) j5 (fun _ _ h=>h)) (by rw [i2.out];exact (prove_err (F:=F) (n:=n) (l:=L.drop (j+1)) (k:=kk) (acc:=acc) (by rw [c9.out];exact h0) (f0.out.trans (by rw [d9.out]))).trans (by rw [c9.out])) h0
         have m3:Hid (zu (fun b=>b=gx) wq w10):=zu.trans (zu.of_ext (X:=fun b=>b=gx) V.out) j5 (fun _ _ h=>h);obtain ⟨As10,cs10,Ak10,ck10,rfl,-⟩:=j8.form;have t5:=zh j8;have v9:=zh n5;have n4:=zh h0;have j0:Hid (wq.heap.size<=w8.heap.size):=V.out.size;clear j5 j8 n5 h0;refine zal o (zu.trans z.out (zu.wide (m3.out) (X':=fun b=>b=gx\/b=gp) (fun k h=>.inl h)) (fun _ _ h=>h)) fun zH=>?_;clear o K;try simp only [za,EK]
         refine zx 7 fun K o=>?_;go_simp;have h5:=zg.new w10 #[.int .i64 r10.2.1.task,.slice As10 r10.2.1.side.length cs10,.slice Ak10 r10.2.1.kids.length ck10] 37 (g:=w10.heap.size) rfl;have hA11:zb w10 (w10.alloc (.cells #[.int .i64 r10.2.1.task,.slice As10 r10.2.1.side.length cs10,.slice Ak10 r10.2.1.kids.length ck10] 37)):=(zb.refl w10).alloc _;generalize w10.alloc _=w11 at h5 hA11⊢;generalize w10.heap.size=g11 at h5⊢;have s1:=zh h5;have b7:Hid (zu (fun b=>b=gx) wq w11):=zu.trans (m3.out) (zu.of_ext (X:=fun b=>b=gx) hA11) (fun _ _ h=>h);have t6:=zh (t5.out.ext hA11);have n0:=zh (v9.out.ext hA11);clear h5 hA11;refine zal o (zu.trans z.out (zu.wide (b7.out) (X':=fun b=>b=gx\/b=gp) (fun k h=>.inl h)) (fun _ _ h=>h)) fun zH=>?_;clear o K;try simp only [za,EK]
         refine zx 8 fun K o=>?_;have m4:Hid (Cd w11 w6.heap.size vk acc cs):=E.out.chg (b7.out) (fun b hb e=>by have:=s.out;omega);refine zB (ok:=fun _=>True) (by rfl) w11 _ _ eProof (by rfl) w6.heap.size acc.length 1 cs _ vk _ (by rfl) (by rfl) m4.out.own (prv_row1 s1.out) (fun u hu=>by simp at hu;rcases hu with rfl | rfl | rfl <;> rfl) (by have h1:=z.out.size;have h2:=zu.size (b7.out);omega) (by have:=G.out;unfold maxLen;omega) (by have:=G.out;omega) ?_;intro v12 w12 k5 e7 o0;have t2:=zh (show Cd w12 w6.heap.size _ (acc++[r10.2.1]) (cs++[.int .i64 r10.2.1.task,.slice As10 r10.2.1.side.length cs10,.slice Ak10 r10.2.1.kids.length ck10]) from m4.out.app (lo:=w8.heap.size) t6.out (fun k hk=>by have h1:=E.out.lt hk;have h2:=j0.out;omega) (by have h1:=z.out.size;have h2:=j0.out;omega) k5 e7 o0);have g6:Hid (zu (fun b=>b=gx\/b=gp) w6 w12):=zu.grown (zu.trans z.out (zu.wide (b7.out) (X':=fun b=>b=gx\/b=gp) (fun k h=>.inl h)) (fun _ _ h=>h)) e7 (fun k hk M=>by have h1:=E.out.lt hk;omega);obtain ⟨A12,c12,e12,-,-⟩:=zV.of_own k5;subst e12;have f3:Hid (zg w12 gp 37 #[.int .i64 c,.slice none 0 0,vk]):=(e7.block gp (by have h1:=s.out.1;have h2:=z.out.size;have h3:=zu.size (b7.out);omega) (fun e=>by have h1:=E.out.lt e.symm;have h2:=s.out;omega)).trans (zu.blk (b7.out) a7.out (by have:=s.out;omega));have w0:Hid (zg w12 gx 137 #[.int .i64 r10.2.2]):=(e7.block gx (zd n0.out) (fun e=>by have h1:=E.out.lt e.symm;have h2:=s.out;omega)).trans n0.out;clear k5 e7 o0;refine zal o (g6.out) fun zH=>?_;clear o K;try simp only [za,EK]
         refine zx 9 fun K o=>?_;go_simp;refine zal o (g6.out) fun zH=>?_;clear o K;try simp only [za,EK]
         refine zx 10 fun K o=>?_;have cg14:=f3.out.cell (k:=2) rfl;have fg14:=f3.out.frozen 2;go_simp;clear cg14 fg14;refine zal o (zu.set (g6.out) gp 2 (.slice A12 (acc.length+1) c12) (.inr rfl)) fun zH=>?_;clear o K;try simp only [za,EK]
         refine Fs (by kernel_rfl) ?_ _;have a5:Hid (zu (fun b=>b=gx\/b=gp) w6 (w12.setCell ⟨gp,2,none⟩ (.slice A12 (acc.length+1) c12))):=zu.set (g6.out) gp 2 (.slice A12 (acc.length+1) c12) (.inr rfl);have J:Hid (zg (w12.setCell ⟨gp,2,none⟩ (.slice A12 (acc.length+1) c12)) gp 37 #[.int .i64 c,.slice none 0 0,(.slice A12 (acc.length+1) c12)]):=f3.out.set (k:=2) (.slice A12 (acc.length+1) c12);have a6:Hid (zg (w12.setCell ⟨gp,2,none⟩ (.slice A12 (acc.length+1) c12)) gx 137 #[.int .i64 r10.2.2]):=w0.out.setOther (a:=⟨gp,2,none⟩) (by have:=s.out;show gx≠gp;omega) (.slice A12 (acc.length+1) c12);have a4:=zh (t2.out.chg (zu.set (X:=fun b=>b=gp) (zu.refl _ w12) gp 2 (.slice A12 (acc.length+1) c12) rfl) (fun b hb e=>by have:=s.out;omega));generalize w12.setCell ⟨gp,2,none⟩ (.slice A12 (acc.length+1) c12)=wz at a5 J a6 a4⊢;have hF1:(F n kk).1=0:=by rw [c9.out];exact n4.out
         have a3:Hid (AJ F L (k+1) []=AJ F (L.drop (j+1)) r10.2.2 (acc++[r10.2.1])):=by (show _=_);rw [f0.out,d9.out,Eg hF1,c9.out]
         have Z:Hid (r10.2.2<=3000):=by (show _<=_);have h:=(DW HC.out fl (ch++[n]) kk b3.out a9.out (by rw [<-j3.out];exact n4.out)).2.2;rw [<-j3.out] at h;exact h
         clear hF1;go_wp2;go_roundw
         case rel=>exact ⟨j+1,_,_,_,_,by go_num,by omega,by (show _=_);rw [EV,G.out];rfl,Z.out,a3.out,a5.out,a6.out,J.out,a4.out⟩
         case measure=>simp [intOf];omega
        refine Fp rfl (fun K o=>?_) .nil;go_simp;go_at_call 101;refine (IH.out (ch++[n]) kk gx _ vc8 vp8 w8 v4.out b3.out (by have:=HF.out;rw [EV,Fo];omega) a9.out (V.out.cellB g0.out) (fun b hb=>by have h1:=j1.out;have h2:=b4.out.size;have h3:=zd g0.out;rcases hb with hb | hb;exact h1 b hb;omega)).mono ?_;obtain ⟨r15,k9⟩:∃r:Int×PT×Nat,r=zG m fl (ch++[n]) kk:=⟨_,rfl⟩;rw [<-k9];have e4:=zh k9;have O:Hid (F n kk=r15):=by (show _=_);rw [o6.out];exact e4.out.symm
        clear k9;rintro e w15 ⟨j6,(⟨h0,v15,rfl,j9,n6⟩ | ⟨h0,rfl⟩)⟩
        rotate_left
        ·go_wp2;refine ⟨rfl,?_⟩;exact prove_fin3 (x:=zG m (fl+1) ch k) i3.out z.out s.out f1.out (zu.trans (zu.of_ext (X:=fun b=>b=gx) V.out) j6 (fun _ _ h=>h)) (by rw [i2.out];exact (prove_err (F:=F) (n:=n) (l:=L.drop (j+1)) (k:=kk) (acc:=acc) (by rw [O.out];exact h0) (f0.out.trans (by rw [d9.out]))).trans (by rw [O.out])) h0
        have d8:Hid (zu (fun b=>b=gx) wq w15):=zu.trans (zu.of_ext (X:=fun b=>b=gx) V.out) j6 (fun _ _ h=>h);obtain ⟨As15,cs15,Ak15,ck15,rfl,-⟩:=j9.form;have m9:=zh j9;have n1:=zh n6;have h4:=zh h0;have d4:Hid (wq.heap.size<=w8.heap.size):=V.out.size;clear j6 j9 n6 h0;refine zal o (zu.trans z.out (zu.wide (d8.out) (X':=fun b=>b=gx\/b=gp) (fun k h=>.inl h)) (fun _ _ h=>h)) fun zH=>?_;clear o K;try simp only [za,EK]
        refine rdA [1,7] ?_;refine Fp rfl (fun K o=>?_) ?_
        ·have cg16:w15.cell? ⟨gp,2,none⟩=some vk:=zu.cellk (d8.out) (a7.out.cell (k:=2) rfl) (by have:=s.out;show ¬ (gp=gx);omega);go_simp;clear cg16;refine zal o (zu.trans z.out (zu.wide (d8.out) (X':=fun b=>b=gx\/b=gp) (fun k h=>.inl h)) (fun _ _ h=>h)) fun zH=>?_;clear o K;try simp only [za,EK]
         refine zx 7 fun K o=>?_;go_simp;have h6:=zg.new w15 #[.int .i64 r15.2.1.task,.slice As15 r15.2.1.side.length cs15,.slice Ak15 r15.2.1.kids.length ck15] 37 (g:=w15.heap.size) rfl;have hA17:zb w15 (w15.alloc (.cells #[.int .i64 r15.2.1.task,.slice As15 r15.2.1.side.length cs15,.slice Ak15 r15.2.1.kids.length ck15] 37)):=(zb.refl w15).alloc _;generalize w15.alloc _=w17 at h6 hA17⊢;generalize w15.heap.size=g17 at h6⊢;have s2:=zh h6;have b8:Hid (zu (fun b=>b=gx) wq w17):=zu.trans (d8.out) (zu.of_ext (X:=fun b=>b=gx) hA17) (fun _ _ h=>h);have t7:=zh (m9.out.ext hA17);have n2:=zh (n1.out.ext hA17);clear h6 hA17;refine zal o (zu.trans z.out (zu.wide (b8.out) (X':=fun b=>b=gx\/b=gp) (fun k h=>.inl h)) (fun _ _ h=>h)) fun zH=>?_;clear o K;try simp only [za,EK]
         refine zx 8 fun K o=>?_;have m5:Hid (Cd w17 w6.heap.size vk acc cs):=E.out.chg (b8.out) (fun b hb e=>by have:=s.out;omega);refine zB (ok:=fun _=>True) (by rfl) w17 _ _ eProof (by rfl) w6.heap.size acc.length 1 cs _ vk _ (by rfl) (by rfl) m5.out.own (prv_row1 s2.out) (fun u hu=>by simp at hu;rcases hu with rfl | rfl | rfl <;> rfl) (by have h1:=z.out.size;have h2:=zu.size (b8.out);omega) (by have:=G.out;unfold maxLen;omega) (by have:=G.out;omega) ?_;intro v18 w18 k6 e8 o1;have t3:=zh (show Cd w18 w6.heap.size _ (acc++[r15.2.1]) (cs++[.int .i64 r15.2.1.task,.slice As15 r15.2.1.side.length cs15,.slice Ak15 r15.2.1.kids.length ck15]) from m5.out.app (lo:=w8.heap.size) t7.out (fun k hk=>by have h1:=E.out.lt hk;have h2:=d4.out;omega) (by have h1:=z.out.size;have h2:=d4.out;omega) k6 e8 o1);have g7:Hid (zu (fun b=>b=gx\/b=gp) w6 w18):=zu.grown (zu.trans z.out (zu.wide (b8.out) (X':=fun b=>b=gx\/b=gp) (fun k h=>.inl h)) (fun _ _ h=>h)) e8 (fun k hk M=>by have h1:=E.out.lt hk;omega);obtain ⟨A18,c18,e18,-,-⟩:=zV.of_own k6;subst e18;have f4:Hid (zg w18 gp 37 #[.int .i64 c,.slice none 0 0,vk]):=(e8.block gp (by have h1:=s.out.1;have h2:=z.out.size;have h3:=zu.size (b8.out);omega) (fun e=>by have h1:=E.out.lt e.symm;have h2:=s.out;omega)).trans (zu.blk (b8.out) a7.out (by have:=s.out;omega));have w9:Hid (zg w18 gx 137 #[.int .i64 r15.2.2]):=(e8.block gx (zd n2.out) (fun e=>by have h1:=E.out.lt e.symm;have h2:=s.out;omega)).trans n2.out;clear k6 e8 o1;refine zal o (g7.out) fun zH=>?_;clear o K;try simp only [za,EK]
         refine zx 9 fun K o=>?_;go_simp;refine zal o (g7.out) fun zH=>?_;clear o K;try simp only [za,EK]
         refine zx 10 fun K o=>?_;have cg20:=f4.out.cell (k:=2) rfl;have fg20:=f4.out.frozen 2;go_simp;clear cg20 fg20;refine zal o (zu.set (g7.out) gp 2 (.slice A18 (acc.length+1) c18) (.inr rfl)) fun zH=>?_;clear o K;try simp only [za,EK]
         refine Fs (by kernel_rfl) ?_ _;have a5:Hid (zu (fun b=>b=gx\/b=gp) w6 (w18.setCell ⟨gp,2,none⟩ (.slice A18 (acc.length+1) c18))):=zu.set (g7.out) gp 2 (.slice A18 (acc.length+1) c18) (.inr rfl);have J:Hid (zg (w18.setCell ⟨gp,2,none⟩ (.slice A18 (acc.length+1) c18)) gp 37 #[.int .i64 c,.slice none 0 0,(.slice A18 (acc.length+1) c18)]):=f4.out.set (k:=2) (.slice A18 (acc.length+1) c18);have a6:Hid (zg (w18.setCell ⟨gp,2,none⟩ (.slice A18 (acc.length+1) c18)) gx 137 #[.int .i64 r15.2.2]):=w9.out.setOther (a:=⟨gp,2,none⟩) (by have:=s.out;show gx≠gp;omega) (.slice A18 (acc.length+1) c18);have a4:=zh (t3.out.chg (zu.set (X:=fun b=>b=gp) (zu.refl _ w18) gp 2 (.slice A18 (acc.length+1) c18) rfl) (fun b hb e=>by have:=s.out;omega));generalize w18.setCell ⟨gp,2,none⟩ (.slice A18 (acc.length+1) c18)=wz at a5 J a6 a4⊢;have hF1:(F n kk).1=0:=by rw [O.out];exact h4.out
         have a3:Hid (AJ F L (k+1) []=AJ F (L.drop (j+1)) r15.2.2 (acc++[r15.2.1])):=by (show _=_);rw [f0.out,d9.out,Eg hF1,O.out]
         have Z:Hid (r15.2.2<=3000):=by (show _<=_);have h:=(DW HC.out fl (ch++[n]) kk b3.out a9.out (by rw [<-e4.out];exact h4.out)).2.2;rw [<-e4.out] at h;exact h
         clear hF1;go_wp2;go_roundw
         case rel=>exact ⟨j+1,_,_,_,_,by go_num,by omega,by (show _=_);rw [EV,G.out];rfl,Z.out,a3.out,a5.out,a6.out,J.out,a4.out⟩
         case measure=>simp [intOf];omega
        refine Fp rfl (fun K o=>?_) .nil;go_simp;have h7:=zg.new w15 #[.int .i64 r15.2.1.task,.slice As15 r15.2.1.side.length cs15,.slice Ak15 r15.2.1.kids.length ck15] 37 (g:=w15.heap.size) rfl;have hA21:zb w15 (w15.alloc (.cells #[.int .i64 r15.2.1.task,.slice As15 r15.2.1.side.length cs15,.slice Ak15 r15.2.1.kids.length ck15] 37)):=(zb.refl w15).alloc _;generalize w15.alloc _=w21 at h7 hA21⊢;generalize w15.heap.size=g21 at h7⊢;have s3:=zh h7;have Q:Hid (zu (fun b=>b=gx) wq w21):=zu.trans (d8.out) (zu.of_ext (X:=fun b=>b=gx) hA21) (fun _ _ h=>h);have t8:=zh (m9.out.ext hA21);have n3:=zh (n1.out.ext hA21);clear h7 hA21;refine zal o (zu.trans z.out (zu.wide (Q.out) (X':=fun b=>b=gx\/b=gp) (fun k h=>.inl h)) (fun _ _ h=>h)) fun zH=>?_;clear o K;try simp only [za,EK]
        refine zx 1 fun K o=>?_;have cg22:w21.cell? ⟨gp,2,none⟩=some vk:=zu.cellk (Q.out) (a7.out.cell (k:=2) rfl) (by have:=s.out;show ¬ (gp=gx);omega);go_simp;clear cg22;refine zal o (zu.trans z.out (zu.wide (Q.out) (X':=fun b=>b=gx\/b=gp) (fun k h=>.inl h)) (fun _ _ h=>h)) fun zH=>?_;clear o K;try simp only [za,EK]
        refine zx 8 fun K o=>?_;have m6:Hid (Cd w21 w6.heap.size vk acc cs):=E.out.chg (Q.out) (fun b hb e=>by have:=s.out;omega);refine zB (ok:=fun _=>True) (by rfl) w21 _ _ eProof (by rfl) w6.heap.size acc.length 1 cs _ vk _ (by rfl) (by rfl) m6.out.own (prv_row1 s3.out) (fun u hu=>by simp at hu;rcases hu with rfl | rfl | rfl <;> rfl) (by have h1:=z.out.size;have h2:=zu.size (Q.out);omega) (by have:=G.out;unfold maxLen;omega) (by have:=G.out;omega) ?_;intro v23 w23 k7 e9 o3;have t4:=zh (show Cd w23 w6.heap.size _ (acc++[r15.2.1]) (cs++[.int .i64 r15.2.1.task,.slice As15 r15.2.1.side.length cs15,.slice Ak15 r15.2.1.kids.length ck15]) from m6.out.app (lo:=w8.heap.size) t8.out (fun k hk=>by have h1:=E.out.lt hk;have h2:=d4.out;omega) (by have h1:=z.out.size;have h2:=d4.out;omega) k7 e9 o3);have g8:Hid (zu (fun b=>b=gx\/b=gp) w6 w23):=zu.grown (zu.trans z.out (zu.wide (Q.out) (X':=fun b=>b=gx\/b=gp) (fun k h=>.inl h)) (fun _ _ h=>h)) e9 (fun k hk M=>by have h1:=E.out.lt hk;omega);obtain ⟨A23,c23,e23,-,-⟩:=zV.of_own k7;subst e23;have f5:Hid (zg w23 gp 37 #[.int .i64 c,.slice none 0 0,vk]):=(e9.block gp (by have h1:=s.out.1;have h2:=z.out.size;have h3:=zu.size (Q.out);omega) (fun e=>by have h1:=E.out.lt e.symm;have h2:=s.out;omega)).trans (zu.blk (Q.out) a7.out (by have:=s.out;omega));have x1:Hid (zg w23 gx 137 #[.int .i64 r15.2.2]):=(e9.block gx (zd n3.out) (fun e=>by have h1:=E.out.lt e.symm;have h2:=s.out;omega)).trans n3.out;clear k7 e9 o3;refine zal o (g8.out) fun zH=>?_;clear o K;try simp only [za,EK]
        refine zx 9 fun K o=>?_;go_simp;refine zal o (g8.out) fun zH=>?_;clear o K;try simp only [za,EK]
        refine zx 10 fun K o=>?_;have cg25:=f5.out.cell (k:=2) rfl;have fg25:=f5.out.frozen 2;go_simp;clear cg25 fg25;refine zal o (zu.set (g8.out) gp 2 (.slice A23 (acc.length+1) c23) (.inr rfl)) fun zH=>?_;clear o K;try simp only [za,EK]
        refine Fs (by kernel_rfl) ?_ _;have a5:Hid (zu (fun b=>b=gx\/b=gp) w6 (w23.setCell ⟨gp,2,none⟩ (.slice A23 (acc.length+1) c23))):=zu.set (g8.out) gp 2 (.slice A23 (acc.length+1) c23) (.inr rfl);have J:Hid (zg (w23.setCell ⟨gp,2,none⟩ (.slice A23 (acc.length+1) c23)) gp 37 #[.int .i64 c,.slice none 0 0,(.slice A23 (acc.length+1) c23)]):=f5.out.set (k:=2) (.slice A23 (acc.length+1) c23);have a6:Hid (zg (w23.setCell ⟨gp,2,none⟩ (.slice A23 (acc.length+1) c23)) gx 137 #[.int .i64 r15.2.2]):=x1.out.setOther (a:=⟨gp,2,none⟩) (by have:=s.out;show gx≠gp;omega) (.slice A23 (acc.length+1) c23);have a4:=zh (t4.out.chg (zu.set (X:=fun b=>b=gp) (zu.refl _ w23) gp 2 (.slice A23 (acc.length+1) c23) rfl) (fun b hb e=>by have:=s.out;omega));generalize w23.setCell ⟨gp,2,none⟩ (.slice A23 (acc.length+1) c23)=wz at a5 J a6 a4⊢;have hF1:(F n kk).1=0:=by rw [O.out];exact h4.out
        have a3:Hid (AJ F L (k+1) []=AJ F (L.drop (j+1)) r15.2.2 (acc++[r15.2.1])):=by (show _=_);rw [f0.out,d9.out,Eg hF1,O.out]
        have Z:Hid (r15.2.2<=3000):=by (show _<=_);have h:=(DW HC.out fl (ch++[n]) kk b3.out a9.out (by rw [<-e4.out];exact h4.out)).2.2;rw [<-e4.out] at h;exact h
        clear hF1;go_wp2;go_roundw
        case rel=>exact ⟨j+1,_,_,_,_,by go_num,by omega,by (show _=_);rw [EV,G.out];rfl,Z.out,a3.out,a5.out,a6.out,J.out,a4.out⟩
        case measure=>simp [intOf];omega
       ·have y9:j=L.length:=by omega
        have C8:¬ ((j:Int)<(L.length:Int)):=by omega
        have o5:Hid (AJ F L (k+1) []=(0,acc,kk)):=by
         show _=_;rw [f0.out,y9,List.drop_length];rfl
        have D:zg wk' (gs+1) 37 #[.int .i64 0,.slice none 0 0,.slice none 0 0]:=z.out.blk C3.out (by have:=s.out;omega);have z0:=D.cell (k:=0) rfl;have z1:=D.cell (k:=1) rfl;have z2:=D.cell (k:=2) rfl;have hfz:∀j,wk'.frozen? ⟨gs+1,j,none⟩=false:=fun j=>D.frozen j
        have i7:=zh D;obtain ⟨Ak,ck,evk,-,-⟩:=zV.of_own E.out.own;subst evk;have p0:=a7.out.cell (k:=0) rfl;have p1:=a7.out.cell (k:=1) rfl;have p2:=a7.out.cell (k:=2) rfl;clear D y9
        go_wp2_with fail
        refine CY (P:=fun W=>bodyPost Tryz.prog Tryz.f101 _ Exit.ret _ W) (g2:=gs+1) ?_ i7.out;intro WZ a8 j7 z3;have y0:=a8.cell (k:=0) rfl;have y1:=a8.cell (k:=1) rfl;have y2:=a8.cell (k:=2) rfl;refine FK (v:=.agg #[.int .i64 c,.slice none 0 0,.slice Ak acc.length ck]) (by simp [results,Tryz.results101,go_sem,y0,y1,y2]) rfl ?_;rw [i2.out,o5.out,if_pos rfl,<-b2.out];exact prove_fin2 i3.out z.out s.out f1.out g0.out E.out j7 z3
end
section
open Go.RowKit
attribute [local go_sem ↓] Go.wp_at_zero Go.wp_at_succ
theorem make1_panics (gp ge:Nat) (x:Int) (older:List PanicEntry) (w:World) {a b c:Value} (hp:zg w gp 37 #[a,b,c]) (he:zg w ge 38 #[d]) (o:gp≠ge):
  CallsD Tryz.prog 100 #[.pointer (some ⟨gp,0,none⟩),.pointer (some ⟨ge,0,none⟩)] (.panicking ({ v:=.iface 38 (.int .i64 x),recovered:=false } :: older)) w fun e u' w'=>
   e=.returned (.tuple #[])/\u'=.panicking ({ v:=.iface 38 (.int .i64 x),recovered:=true } :: older)/\w'=(((w.setCell ⟨gp,0,none⟩ (.int .i64 0)).setCell ⟨gp,1,none⟩ (.slice none 0 0)).setCell ⟨gp,2,none⟩ (.slice none 0 0)).setCell ⟨ge,0,none⟩ (.int .i64 x):=by
 have c0:=hp.cell (k:=0) rfl;have c1:=hp.cell (k:=1) rfl;have c2:=hp.cell (k:=2) rfl;have ce:=he.cell (k:=0) rfl;have f0:=fun j=>hp.frozen j
 have fe:=he.frozen 0;refine callsD_of_wpS Tryz.func100 rfl fun c₀ cs z=>?_
 apply wpS_seq;apply wpS_region;simp [wpOpsS,go_sem,recoverD,z,Tryz.ntmps100,Exit.thenS];refine wpS_of_wp ?_;have s:∀W,(Instr.typeAssert (.iface 38 (.int .i64 x)) 20 38 true).run Tryz.prog W=.ok (.tuple #[.int .i64 x,.bool true]) W:=fun W=>by kernel_rfl
 go_wp2;cases c₀
 simp_all [bodyPostS,results,Tryz.results100]
theorem proveP_zero:∀(f:Nat) (ch:List Int) (k:Nat),(zG m f ch k).1≠0->(zG m f ch k).2.1=PT.zero
 | 0,ch,k,h=>by unfold zG;rfl
 | f+1,ch,k,h=>by
  by_cases h1:m.tasks.length<=AD m ch
  ·rw [proveP_end h1]
  ·by_cases h2:3000<k+1
   ·rw [proveP_many h1 h2]
   ·cases h3:cutT m ch with
    | some t=>rw [proveP_cut h1 h2 h3] at h;exact absurd rfl h
    | none=>
     rw [proveP_kids h1 h2 h3] at h⊢
     split
     ·next o=>rw [if_pos o] at h;exact absurd rfl h
     ·rfl
theorem case_fin4 {ge:Nat} {e:Value} (h:∀WZ,zg WZ gp 37 #[a0,a1,a2]->zg WZ ge 38 #[d]->zu (fun b=>b=gp\/b=ge) W WZ->P WZ) (s:zg W gp 37 #[z0,z1,z2]) (he:zg W ge 38 #[e]):
  P ((((W.setCell ⟨gp,0,none⟩ a0).setCell ⟨gp,1,none⟩ a1).setCell ⟨gp,2,none⟩ a2).setCell ⟨ge,0,none⟩ d):=by
 have o:gp≠ge:=s.ne_ he (by decide);have h1:zg (setL gp 0 [a0,a1,a2] W) gp 37 #[a0,a1,a2]:=setL_blk [a0,a1,a2] [z0,z1,z2] [] W rfl s;have h2:zg (setL gp 0 [a0,a1,a2] W) ge 38 #[e]:=(DG gp ge (Ne.symm o) _ 0 W).trans he;refine h _ (h1.setOther (a:=⟨ge,0,none⟩) o d) (h2.set (k:=0) d) ⟨rfl,rfl,rfl,?_,fun b s z=>?_⟩
 ·simp
 ·refine (EW _ ⟨ge,0,none⟩ _ b (fun e=>z (.inr e))).trans (DG gp b (fun e=>z (.inl e)) [a0,a1,a2] 0 W)
theorem make1_idle (gp ge:Nat) (w:World):
  CallsD Tryz.prog 100 #[.pointer (some ⟨gp,0,none⟩),.pointer (some ⟨ge,0,none⟩)] .returning w fun e u' w'=>e=.returned (.tuple #[])/\u'=.returning/\w'=w:=by
 refine callsD_of_wpS Tryz.func100 rfl fun c₀ cs o=>?_
 apply wpS_seq;apply wpS_region;simp [wpOpsS,go_sem,recoverD,o,Tryz.ntmps100,Exit.thenS];refine wpS_of_wp ?_;go_wp2;cases c₀
 simp_all [bodyPostS,results,Tryz.results100]
theorem pmake_calls (w:World) (hm:zt w ok v m) (hl:Lens m):
  Calls Tryz.prog 74 #[v] w fun e w'=>∃v',e=.returned (.tuple #[v',.int .i64 (makeP m).1])/\zb w w'/\En w' (fun b=>w.heap.size<=b) v' (makeP m).2:=by
 have HM:=zh hm;have HL:=zh hl;obtain ⟨Af,cf,Au,cu,At,ct,rfl,-,-,-⟩:=hm.parts;clear hm hl;have f6:∀(fn:Fn) (first cap:Array Value) (w:World),(Instr.makeFunc fn first cap).run Tryz.prog w=.ok (.func fn first cap) w:=fun _ _ _ _=>rfl
 go_enter_defers Tryz.func74,Tryz.ntmps74
 go_upto_region 1 with fail;obtain ⟨b4,r0,r1,r2,r3,r4,r5⟩:=CG w (.int .i64 m.w) (.int .i64 m.h) (.int .i64 m.l) (.slice Af m.free.length cf) (.slice Au m.up.length cu) (.slice At m.tasks.length ct);have a7:(w.alloc (.cells #[.int .i64 m.w,.int .i64 m.h,.int .i64 m.l,.slice Af m.free.length cf,.slice Au m.up.length cu,.slice At m.tasks.length ct] 32)).heap.size=w.heap.size+1:=by simp
 generalize w.alloc _=w0 at b4 r0 r1 r2 r3 r4 r5 a7⊢;have O:=zg.new w0 #[.int .i64 0,.slice none 0 0,.slice none 0 0] 37 (g:=w0.heap.size) rfl;have a6:zb w0 (w0.alloc (.cells #[.int .i64 0,.slice none 0 0,.slice none 0 0] 37)):=(zb.refl w0).alloc _;have b8:(w0.alloc (.cells #[.int .i64 0,.slice none 0 0,.slice none 0 0] 37)).heap.size=w0.heap.size+1:=by simp
 generalize w0.alloc _=w1 at O a6 b8⊢;have M:=zg.new w1 #[.int .i64 0] 38 (g:=w1.heap.size) rfl;have U:zb w1 (w1.alloc (.cells #[.int .i64 0] 38)):=(zb.refl w1).alloc _;generalize w1.alloc _=w2 at M U⊢;rw [b8,a7] at M;rw [a7] at O;obtain ⟨gm,b6⟩:=zak w.heap.size;rw [<-b6] at r0 r1 r2 r3 r4 r5 O M⊢;have L:Hid (gm=w.heap.size):=b6;have E:=zh (a6.trans U);have r0:=fun W h=>r0 W (E.out.trans h)
 have r1:=fun W h=>r1 W (E.out.trans h)
 have r2:=fun W h=>r2 W (E.out.trans h)
 have r3:=fun W h=>r3 W (E.out.trans h)
 have r4:=fun W h=>r4 W (E.out.trans h)
 have r5:=fun W h=>r5 W (E.out.trans h)
 have HP:=zh (O.ext U);have HE:=zh M;have b0:=zh (b4.trans (a6.trans U));clear b6 b4 a7 a6 b8 U O M;have hx:zb w2 w2:=zb.refl w2
 go_wp2_with fail
 refine (BO w2 (HM.out.below b0.out) HL.out).mono ?_;rintro e w3 ⟨rfl,a4⟩;have b9:zb w2 w3:=a4;have I:=zh (HP.out.ext a4);have J:=zh (HE.out.ext a4);obtain ⟨ck,b5⟩:=zak (AY m);have Z:=zh b5;rw [<-b5];clear hx a4 b5;by_cases h0:ck=0
 ·subst h0;have HC:Hid (AY m=0):=Z.out.symm;clear Z;have e7:=Ah w2
  go_wp2_with fail
  have a5:=zg.new w3 #[.int .i64 0] 137 (g:=w3.heap.size) rfl;have Q:zb w3 (w3.alloc (.cells #[.int .i64 0] 137)):=(zb.refl w3).alloc _;have a8:(w3.alloc (.cells #[.int .i64 0] 137)).heap.size=w3.heap.size+1:=by simp
  generalize w3.alloc _=w4 at a5 Q a8⊢;obtain ⟨gx,b7⟩:=zak w3.heap.size;rw [<-b7] at a5 a8⊢;have s:Hid (gm+2<gx/\w4.heap.size=gx+1):=⟨by rw [b7];have:=zd J.out;omega,a8⟩;have e4:=zh a5;have d4:Hid (zb w w4):=b0.out.trans (b9.trans Q);have e0:=zh (I.out.ext Q);have d8:=zh (J.out.ext Q);clear a5 a8 b7 b9 Q e7 r0 r1 r2 r3 r4 r5;refine (of_calls (ok:=fun b=>ok b/\b<w.heap.size) w4 (HM.out.bound.below d4.out) HL.out HC.out (zi.nil _ _) zC.nil).mono ?_;rintro e w5 ⟨vp,rfl,T,d6⟩;have b1:=zh (e4.out.ext T);have d5:=zh (d4.out.trans T);have c7:=zh (e0.out.ext T);have c6:=zh (d8.out.ext T);have e3:=zh d6;clear T d6
  have c9:Hid (∀r,r=zG m (m.n.toNat+2) [] 0->Calls Tryz.prog 101 #[.pointer (some ⟨gx,0,none⟩),stv m (.slice Af m.free.length cf) (.slice Au m.up.length cu) (.slice At m.tasks.length ct) (.slice none 0 0) vp (AD m [])] w5 (DN w5 gx r)):=fun r hr=>by
   rw [hr];exact prove_calls HL.out HC.out (m.n.toNat+2) [] 0 gx _ _ _ w5 e3.out zC.nil (by simp) (by omega) b1.out (fun b hb=>by have h1:=s.out;have h2:=L.out;rcases hb with hb | hb <;> omega)
  obtain ⟨r,hr⟩:=zak (zG m (m.n.toNat+2) [] 0);have a3:Hid (makeP m=(r.1,r.2.1)):=by (show _=_);unfold makeP;rw [if_pos HC.out,hr]
  have c8:=zh (c9.out r hr);have b2:Hid (r.1≠0->r.2.1=PT.zero):=fun h=>by rw [hr] at h⊢;exact proveP_zero _ _ _ h
  clear c9 hr;unfold stv at c8⊢
  go_wp2_with fail
  refine c8.out.mono ?_;rintro e w6 ⟨D,(⟨h0,v6,rfl,b3,e5⟩ | ⟨h0,rfl⟩)⟩
  ·have z:=zh (D.blk c7.out (by have:=s.out;omega));have G:=zh (D.blk c6.out (by have:=s.out;omega));have a9:=zh D;have HR:=zh b3;have HZ:=zh h0;obtain ⟨As,cs,Ak,ck,rfl,-⟩:=b3.form;have c0:=z.out.cell (k:=0) rfl;have c1:=z.out.cell (k:=1) rfl;have c2:=z.out.cell (k:=2) rfl;have ce:=G.out.cell (k:=0) rfl;have f0:=fun j=>z.out.frozen j
   have fe:=G.out.frozen 0;clear D h0 b3 e5
   go_wp2_with fail
   refine case_fin4 (P:=fun W=>bodyPostD Tryz.prog Tryz.f74 _ Exit.ret _ W) (gp:=gm+1) (ge:=gm+1+1) ?_ z.out G.out;intro WZ o V hC;have y0:=o.cell (k:=0) rfl;have y1:=o.cell (k:=1) rfl;have y2:=o.cell (k:=2) rfl;have y3:=V.cell (k:=0) rfl;refine leaves_cons (f:=100) (args:=#[.pointer (some ⟨gm+1,0,none⟩),.pointer (some ⟨gm+1+1,0,none⟩)]) (by simp) (by simp [go_sem]) ?_;refine (make1_idle _ _ _).mono ?_;rintro e u' w'' ⟨rfl,rfl,rfl⟩;refine ⟨.tuple #[.agg #[.int .i64 r.2.1.task,.slice As r.2.1.side.length cs,.slice Ak r.2.1.kids.length ck],.int .i64 0],by simp [results,Tryz.results74,go_sem,y0,y1,y2,y3],.agg #[.int .i64 r.2.1.task,.slice As r.2.1.side.length cs,.slice Ak r.2.1.kids.length ck],?_,?_,?_⟩
   ·rw [a3.out,HZ.out]
   ·exact (((zu.of_ext (X:=fun b=>gm<=b) d5.out).trans a9.out (fun k _ h=>by have:=s.out;omega)).trans hC (fun k _ h=>by omega)).below (EN _) (fun b hb=>by rw [L.out] at hb;exact hb)
   ·rw [a3.out];exact HR.out.keepW (fun b hb e6=>hC.block b e6 (by have h1:=s.out;have h2:=zd b1.out;omega)) (fun b hb=>by have h1:=s.out;have h2:=zd b1.out;have h3:=L.out;omega)
  ·have z:=zh (D.blk c7.out (by have:=s.out;omega));have G:=zh (D.blk c6.out (by have:=s.out;omega));have a9:=zh D;clear D
   go_wp2_with fail
   refine leaves_cons (f:=100) (args:=#[.pointer (some ⟨gm+1,0,none⟩),.pointer (some ⟨gm+1+1,0,none⟩)]) (by simp) (by simp [go_sem]) ?_;refine (make1_panics _ _ _ _ _ z.out G.out (by omega)).mono ?_;rintro e u' w'' ⟨rfl,rfl,rfl⟩;refine case_fin4 (P:=fun W=>Leaves Tryz.prog Tryz.f74 _ _ _ _ W) (gp:=gm+1) (ge:=gm+1+1) ?_ z.out G.out;intro WZ o V hC;have y0:=o.cell (k:=0) rfl;have y1:=o.cell (k:=1) rfl;have y2:=o.cell (k:=2) rfl;have y3:=V.cell (k:=0) rfl;refine ⟨.tuple #[.agg #[.int .i64 0,.slice none 0 0,.slice none 0 0],.int .i64 r.1],by simp [results,Tryz.results74,go_sem,y0,y1,y2,y3],.agg #[.int .i64 0,.slice none 0 0,.slice none 0 0],?_,?_,?_⟩
   ·rw [a3.out]
   ·exact (((zu.of_ext (X:=fun b=>gm<=b) d5.out).trans a9.out (fun k _ h=>by have:=s.out;omega)).trans hC (fun k _ h=>by omega)).below (EN _) (fun b hb=>by rw [L.out] at hb;exact hb)
   ·rw [a3.out];have:r.2.1=PT.zero:=b2.out h0;rw [this];exact En.zero _ _
 ·have f7:(ck==0)=false:=by rw [Fa];exact h0
  have f8:(ck != 0)=true:=by rw [bne_iff_ne];exact h0
  have c0:=I.out.cell (k:=0) rfl;have c1:=I.out.cell (k:=1) rfl;have c2:=I.out.cell (k:=2) rfl;have ce:=J.out.cell (k:=0) rfl;have f0:=fun j=>I.out.frozen j
  have fe:=J.out.frozen 0;have HN:Hid (makeP m=(ck,.zero)):=by (show _=_);unfold makeP;rw [if_neg (by rw [<-Z.out];exact h0),Z.out]
  clear h0
  go_wp2_with fail
  refine case_fin4 (P:=fun W=>bodyPostD Tryz.prog Tryz.f74 _ Exit.ret _ W) (gp:=gm+1) (ge:=gm+1+1) ?_ I.out J.out;intro WZ o V hC;have y0:=o.cell (k:=0) rfl;have y1:=o.cell (k:=1) rfl;have y2:=o.cell (k:=2) rfl;have y3:=V.cell (k:=0) rfl;refine ⟨.tuple #[.agg #[.int .i64 0,.slice none 0 0,.slice none 0 0],.int .i64 ck],by simp [results,Tryz.results74,go_sem,y0,y1,y2,y3],.agg #[.int .i64 0,.slice none 0 0,.slice none 0 0],?_,?_,?_⟩
  ·rw [HN.out]
  ·exact ((zu.of_ext (X:=fun b=>gm<=b) (b0.out.trans b9)).trans hC (fun k _ h=>by omega)).below (EN _) (fun b hb=>by rw [L.out] at hb;exact hb)
  ·rw [HN.out];exact En.zero _ _
end
end Go.Proofs.YthbjngbhbbkkgaaGreat
