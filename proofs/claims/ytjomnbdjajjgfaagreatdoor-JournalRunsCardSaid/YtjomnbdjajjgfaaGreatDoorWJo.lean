import Derived.Test.YtjomnbdjajjgfaaGreatDoorWJn
import Derived.Deep.LoopGhost
import Derived.Deep.AppendLies
import Derived.StillTailTactics
import Derived.Scope
import Derived.LoopIn
import Derived.ProofKit
import Derived.OpenShut
set_option linter.unusedVariables false
set_option linter.unusedSimpArgs false
set_option maxRecDepth 100000
set_option maxHeartbeats 16000000
namespace Go.Proofs.YtjomnbdjajjgfaaGreatDoor
variable {n:Int} {ok ok':Nat->Prop} {p:PT} {a b c v:Value} {W:World}
section
open Go.RowKit
attribute [local go_sem ↓] Go.wp_at_zero Go.wp_at_succ
theorem madeN_calls {ls:List (List Int)} (w:World) (hl:zU w ok v ls) (F3:ls.length<=9223372036854775807) (s7:∀l∈ls,l.length<=9223372036854775807):
  Calls Tryz.prog 26 #[v] w (Be w):=by
 have s5:=hl.bound;have E6:=zh s5;obtain ⟨vs,⟨A,c,rfl,hc,hr⟩,he⟩:=s5;have HR:=zh hr;have HE:=zh he;clear hl hr he;have l4:=zh s7;clear s7;obtain ⟨iI,ji,jz0,jz1,jz2⟩:=info_parts Tryz.infoInt;have JF:=zh ji;have JZ0:=zh jz0;have JZ1:=zh jz1;have JZ2:=zh jz2;clear ji jz0 jz1 jz2;obtain ⟨iB,bi,bz0,bz1,bz2⟩:=info_parts Tryz.infoBool;have BF:=zh bi;have BZ0:=zh bz0;have BZ1:=zh bz1;have BZ2:=zh bz2;clear bi bz0 bz1 bz2;obtain ⟨iT,ti,tz0,tz1,tz2⟩:=info_parts Tryz.infoTask;have TF:=zh ti;have TZ0:=zh tz0;have TZ1:=zh tz1;have TZ2:=zh tz2;clear ti tz0 tz1 tz2;obtain ⟨iL,li,lz0,lz1,lz2⟩:=info_parts Tryz.infoBools;have LF:=zh li;have LZ0:=zh lz0;have LZ1:=zh lz1;have LZ2:=zh lz2;clear li lz0 lz1 lz2
 go_enter Tryz.func26,Tryz.ntmps26
 go_upto_region 1 with fail;generalize i3:w.alloc (.cells #[.int .i64 0,.int .i64 0,.int .i64 0,.slice none 0 0,.slice none 0 0,.slice none 0 0] 32)=w1;have m8:za w w1:=by rw [<-i3];exact (za.refl w).alloc _
 have c9:Hid (ze w1 w.heap.size 32 #[.int .i64 0,.int .i64 0,.int .i64 0,.slice none 0 0,.slice none 0 0,.slice none 0 0]/\w1.heap.size=w.heap.size+1):=by rw [<-i3];exact ⟨ze.new _ _ _ rfl,by simp⟩
 clear i3;have b4:=zh m8;obtain ⟨B,hB⟩:=zaI w1.heap.size;obtain ⟨gd,d7⟩:=zaI w1.heap.size;have HB:=zh hB;have e3:=zh d7;have o7:AG B (w1.alloc (.cells #[.slice none 0 0,.int .i64 0] 118)) gd:=⟨by omega,_,0,[],ze.new _ _ _ d7,zg.nil _ _,by simp,by simp⟩;have x3:=zh o7;clear o7 m8
 go_upto_if 20 with fail
 rw [<-d7];go_cut [] (fun wx=>Hid (za w1 wx/\AG B wx gd))
 case first=>
  by_cases E:ls.length=0
  ·have h7:decide ((0:Int)<(ls.length:Int))=false:=by rw [E];rfl
   have d8:decide (0<ls.length)=false:=by rw [E];rfl
   have f7:¬ (0<ls.length):=by omega
   have HZ:=zh E;clear E
   go_wp2_with fail
   go_meet;exact ⟨(za.refl _).alloc _,x3.out⟩
  ·have hp:0<ls.length:=by omega
   have h7:decide ((0:Int)<(ls.length:Int))=true:=FB (by omega);have d8:decide (0<ls.length)=true:=FB hp;obtain ⟨b0,o0,u0,rfl,t4,a9,e1⟩:=AW HR.out HE.out hp hp;have HU:=zh e1;obtain ⟨A0,c0,rfl,o5,-⟩:=e1;rw [Nat.add_zero] at a9;have q0:=za.rule a9;have f5:za w (w1.alloc (.cells #[.slice none 0 0,.int .i64 0] 118)):=b4.out.alloc _;clear E a9
   go_wp2_with fail
   go_meet;have h1:=f5;refine ⟨(za.refl _).alloc _,by omega,_,0,ls[0],ze.new _ _ _ d7,?_,l4.out _ (Fz hp),FN _⟩;exact (zg.below HU.out (b4.out.alloc _)).weaken fun b hb=>by have:=hb.2;have:=c9.out.2;omega
 case rest=>
  have g8:B<=w1.heap.size:=by omega
  clear hB d7;obtain ⟨i5,o8⟩:=hcut.out;have x4:=zh o8;clear hcut o8
  go_wp2_with fail
  refine (AU 3 x4.out (by omega) (by omega)).mono ?_;rintro e w3 ⟨x,rfl,F4,F5,o9,r6⟩;have i6:za w1 w3:=Below.grown i5 r6 i5.size (fun k hk=>by injection hk with hk;have:=e3.out;omega);have x5:=zh o9;clear o9 r6 i5
  go_wp2_with fail
  refine (AU 4 x5.out (by omega) (by omega)).mono ?_;rintro e w4 ⟨y,rfl,F6,F7,p5,r7⟩;have i7:za w1 w4:=Below.grown i6 r7 i6.size (fun k hk=>by injection hk with hk;have:=e3.out;omega);have x6:=zh p5;clear p5 r7 i6
  go_wp2_with fail
  refine (AU 2 x6.out (by omega) (by omega)).mono ?_;rintro e w5 ⟨z,rfl,F9,G0,p6,r8⟩;have b3:za w1 w5:=Below.grown i7 r8 i7.size (fun k hk=>by injection hk with hk;have:=e3.out;omega);have x7:=zh p6;clear p6 r8 i7;have l5:Hid (ze (w5.alloc (.cells #[.int .i64 (2+x),.int .i64 (1+y),.int .i64 (1+z),.slice none 0 0,.slice none 0 0,.slice none 0 0] 32)) w5.heap.size 32 #[.int .i64 (2+x),.int .i64 (1+y),.int .i64 (1+z),.slice none 0 0,.slice none 0 0,.slice none 0 0]):=ze.new _ _ _ rfl;obtain ⟨gm,f1⟩:=zaI w5.heap.size;rw [<-f1] at l5;have g5:=zh f1;have x9:=zh b3
  go_upto_if 39 with fail
  rw [<-f1];clear f1;go_cut [] (fun wx=>Hid (za w1 wx/\AG B wx gd/\∃W H L:Int,(2<=W/\W<=4)/\(1<=H/\H<=4)/\(L=1\/(L=2/\W<=3/\H<=2))/\ze wx gm 32 #[.int .i64 W,.int .i64 H,.int .i64 L,.slice none 0 0,.slice none 0 0,.slice none 0 0]))
  case first=>
   have a7:=l5.out;generalize i4:w5.alloc (.cells #[.int .i64 (2+x),.int .i64 (1+y),.int .i64 (1+z),.slice none 0 0,.slice none 0 0,.slice none 0 0] 32)=w6 at*;have i9:za w1 w6:=by rw [<-i4];exact b3.alloc _
   have j6:Hid (AG B w6 gd):=by rw [<-i4];exact x7.out.ext ((za.refl _).alloc _) (FA g8 b3.size)
   clear i4;have m0:w6.cell? ⟨gm,0,none⟩=some (.int .i64 (2+x)):=a7.cell (k:=0) rfl;have m1:w6.cell? ⟨gm,1,none⟩=some (.int .i64 (1+y)):=a7.cell (k:=1) rfl;have m2:w6.cell? ⟨gm,2,none⟩=some (.int .i64 (1+z)):=a7.cell (k:=2) rfl;have hf:=fun k=>a7.frozen k
   have g0:=zh a7;clear a7;by_cases e2:z=1
   ·have ht:((1+z:Int)==2)=true:=by rw [beq_iff_eq];omega
    have C4:decide (1+z=2)=true:=FB (by omega);have i1:(z==1)=true:=by rw [beq_iff_eq];exact e2
    have B0:=zh e2;clear e2
    go_wp2_with fail
    go_meet;have f0:B<=gm:=by have:=g5.out;have:=b3.size;omega
    have s1:w1.heap.size<=gm:=by have:=g5.out;have:=b3.size;omega
    have q9:=j6.out;refine ⟨(i9.setCell (p:=⟨gm,0,none⟩) s1 _).setCell (p:=⟨gm,1,none⟩) s1 _,?_,min (2+x) 3,min (1+y) 2,1+z,by omega,by omega,.inr ⟨by have:=B0.out;omega,by omega,by omega⟩,?_⟩
    ·obtain ⟨cs,hb⟩:=q9.blk;have t3:gd≠gm:=ze.ne_ hb (g0.out) (by decide);exact q9.keep (((Below.refl B w6).setCell (p:=⟨gm,0,none⟩) f0 _).setCell (p:=⟨gm,1,none⟩) f0 _) ((FH _ ⟨gm,1,none⟩ _ gd t3).trans (FH _ ⟨gm,0,none⟩ _ gd t3))
    ·exact ((g0.out).set (k:=0) _).set (k:=1) _
   ·have ht:((1+z:Int)==2)=false:=by rw [FM];omega
    have C4:decide (1+z=2)=false:=FC (by omega);have i1:(z==1)=false:=by rw [FM];exact e2
    have v8:Hid (1+z=1):=by show _=_;omega
    clear e2
    go_wp2_with fail
    go_meet;exact ⟨i9,j6.out,2+x,1+y,1+z,by omega,by omega,.inl v8.out,g0.out⟩
  case rest=>
   obtain ⟨j1,p7,W,H,L,hW,hH,hL,Q⟩:=hcut.out;clear hcut;have q7:=dims hW hH hL;have l8:Hid ((2<=W/\W<=4)/\(1<=H/\H<=4)/\(L=1\/(L=2/\W<=3/\H<=2))):=⟨hW,hH,hL⟩;have m0:wc.cell? ⟨gm,0,none⟩=some (.int .i64 W):=Q.cell (k:=0) rfl;have m1:wc.cell? ⟨gm,1,none⟩=some (.int .i64 H):=Q.cell (k:=1) rfl;have m2:wc.cell? ⟨gm,2,none⟩=some (.int .i64 L):=Q.cell (k:=2) rfl;have m3:wc.cell? ⟨gm,3,none⟩=some (.slice none 0 0):=Q.cell (k:=3) rfl;have m4:wc.cell? ⟨gm,4,none⟩=some (.slice none 0 0):=Q.cell (k:=4) rfl;have m5:wc.cell? ⟨gm,5,none⟩=some (.slice none 0 0):=Q.cell (k:=5) rfl;have z6:=zh Q;have x8:=zh p7;clear Q p7 hW hH hL b3
   go_wp2_with fail
   refine (AB W H L _ _ _ _ (by omega) (by omega)).mono ?_;rintro e w8 ⟨rfl,o4⟩;have a6:za wc w8:=o4;have f6:za w1 w8:=j1.trans a6;have j7:Hid (AG B w8 gd):=x8.out.ext a6 (FA g8 j1.size);have z7:Hid (ze w8 gm 32 #[.int .i64 W,.int .i64 H,.int .i64 L,.slice none 0 0,.slice none 0 0,.slice none 0 0]):=z6.out.ext a6;obtain ⟨n,hn⟩:∃n:Nat,(n:Int)=W*H*L:=⟨(W*H*L).toNat,by omega⟩;rw [<-hn];have HN:=zh hn;have f2:2<=n/\n<=16:=by omega
   clear hn q7 m0 m1 m2 m3 m4 m5 o4 a6 j1
   go_wp2_with fail
   refine (AU 3 j7.out (by omega) (by omega)).mono ?_;rintro e w9 ⟨z9,rfl,v9,w0,p8,g9⟩;obtain ⟨many,e0⟩:∃many:Nat,(many:Int)=1+z9:=⟨(1+z9).toNat,by omega⟩;have s8:1<=many/\many<=3:=by omega
   have H9:Hid (MS B w9 w9.heap.size gm gd W H L n 0 0 (.slice none 0 0) (.slice none 0 0) (.slice none 0 0) [] []):=by
    have f0:B<=gm:=by have:=g5.out;have:=x9.out.size;omega
    have h0:MS B w8 w8.heap.size gm gd W H L n 0 0 (.slice none 0 0) (.slice none 0 0) (.slice none 0 0) [] []:=⟨FA g8 f6.size,Fy _,z7.out,f0,j7.out,World.ownsRow_nil _ _ _ _,World.ownsRow_nil _ _ _ _,fun j hj=>by omega,fun j hj=>by omega⟩;have h1:=h0.drawn p8 g9;exact h1.ext (za.refl _)
   have v7:za w1 w9:=Below.grown f6 g9 f6.size (fun k hk=>by injection hk with hk;have:=e3.out;omega);have l9:=zh v7;clear p8 g9 v7 f6
   go_wp2_with fail
   rw [<-e0];clear e0 v9 w0
   go_loopg [7] many (fun gk v wr=>∃(t:Nat) (vF vT:Value) (fs ts:List Value),v=.int .i64 t/\t<=many/\gk=many - t/\Hid (MS B wr wr.heap.size gm gd W H L n t t vF (.slice none 0 0) vT fs ts/\za w1 wr))
   case atStart=>exact ⟨0,_,_,[],[],rfl,FN _,rfl,H9.out,l9.out⟩
   clear H9 l9
   case round=>
    obtain ⟨t,vF,vT,fs,ts,rfl,ht,rfl,G⟩:=hrel;obtain ⟨wR,rfl⟩:∃wR:World,wR=wr:=⟨_,rfl⟩;rcases zah t many with h8 | hge
    ·skip
     have i0:B<=wR.heap.size:=G.out.1.hB;obtain ⟨ge,hge⟩:=zaI wR.heap.size;have b8:=zh hge;have j9:Hid (AG B (wR.alloc (.cells #[.slice none 0 0,.int .i64 0] 118)) ge):=⟨by omega,_,0,[],ze.new _ _ _ hge,zg.nil _ _,by simp,by simp⟩;have g1:Hid (ze (wR.alloc (.cells #[.slice none 0 0,.int .i64 0] 118)) ge 118 #[.slice none 0 0,.int .i64 0]):=ze.new _ _ _ hge;have g3:Hid (za wR (wR.alloc (.cells #[.slice none 0 0,.int .i64 0] 118))):=(za.refl _).alloc _
     go_upto_if 64 with fail
     rw [<-hge];clear hge;generalize wR.alloc _=wa at*;go_cut [] (fun wx=>Hid (za wR wx/\AG B wx ge))
     case first=>
      by_cases E:t+1<ls.length
      ·have h7:decide ((t:Int)+1<(ls.length:Int))=true:=FB (by omega);have d8:decide (t+1<ls.length)=true:=FB E;have f7:(t:Int)+1<(ls.length:Int):=by omega
       obtain ⟨b0,o0,u0,rfl,t4,a9,e1⟩:=AW HR.out HE.out E E;have HU:=zh e1;obtain ⟨A0,c0,rfl,o5,-⟩:=e1;have q0:=za.rule a9;have v6:za w wR:=b4.out.trans G.out.2;have f5:za w wa:=v6.trans g3.out;have A9:=zh f5;have E8:wa.cell? ⟨ge,0,none⟩=some (.slice none 0 0):=g1.out.cell (k:=0) rfl;have F0:wa.frozen? ⟨ge,0,none⟩=false:=g1.out.frozen 0;clear a9 v6
       go_wp2_with fail
       go_meet;have B7:wR.heap.size<=ge:=by have:=b8.out;omega
       have B8:w.heap.size<=ge:=by have:=b8.out;have:=(Below.size (b4.out.trans G.out.2));omega
       refine ⟨g3.out.setCell (p:=⟨ge,0,none⟩) B7 _,by have:=b8.out;omega,_,0,ls[t+1],g1.out.set (k:=0) _,?_,l4.out _ (Fz E),FN _⟩;exact (zg.keep HU.out (Ao.of_below (A9.out.setCell (p:=⟨ge,0,none⟩) B8 _))).weaken fun b hb=>by have:=hb.2;have:=c9.out.2;have:=HB.out;omega
      ·have h7:decide ((t:Int)+1<(ls.length:Int))=false:=FC (by omega);have d8:decide (t+1<ls.length)=false:=FC E;have f7:¬ (t:Int)+1<(ls.length:Int):=by omega
       have HZ:=zh E;clear E
       go_wp2_with fail
       go_meet;exact ⟨g3.out,j9.out⟩
     case rest=>
      obtain ⟨j2,q6⟩:=hcut.out;have g6:=zh j2;have j8:=zh q6;clear hcut q6 j9;obtain ⟨w6,rfl⟩:∃w6:World,w6=wc:=⟨_,rfl⟩;have B1:B<=w6.heap.size:=FA i0 j2.size;have B9:ge<w6.heap.size:=j8.out.lt;have i1:t<3:=by omega
      have t5:(t:Int)<3:=by omega
      have t6:(0:Int)<=(t:Int):=by omega
      clear j2
      go_wp2_with fail
      refine r16_wp j8 B1 B9 i1 t5 t6 f2 ?hQ16
      case hQ16=>
       intro v W hJ _;obtain ⟨s,g7,g11,gt,x1,x2,C6,C7,t9,f8,n7⟩:=hJ.fin i0 g6.out.size (by have:=b8.out;omega);have m9:za wR W:=Below.grown g6.out hJ.gb g6.out.size (fun k hk=>by injection hk with hk;have:=b8.out;omega);have e5:=zh n7;have k9:=zh m9;clear hJ n7 m9 C6 C7 t9;rw [f8];clear f8
       go_wp2_with fail
       refine (AU 3 e5.out.dr (by omega) (by omega)).mono ?_;rintro e wb ⟨z,rfl,v8,F8,p9,h5⟩;have c6:=zh (e5.out.drawn p9 h5);have b7:=zh (e5.out.drawnExt k9.out h5);clear p9 h5 e5 k9
       go_upto_if 88 with fail
       go_cut [] (fun wx=>∃(u1:Value) (l1:List Int),Hid (R1 B wx wR.heap.size ge gt n s u1 (.slice (some ⟨g11,0,none⟩) 1 1) l1 [x2]/\za wR wx/\l1.length<=2))
       case first=>
        by_cases E:z=0
        ·have j3:(z==0)=true:=by rw [beq_iff_eq];exact E
         have HZ:=zh E;clear E
         go_wp2_with fail
         refine r18_wp c6 b7 f2 (fun c a a' W he h=>(show a'.defers=[]/\Be w (.panicked c) W from ⟨he ▸ (show a.defers=[]/\Be w (.panicked c) W from h).1,(show a.defers=[]/\Be w (.panicked c) W from h).2⟩)) fun u1 l1 W h9 x89 x90 x91 x92 x93 x94 x95 x96=>?_
         go_wp2_with fail
         go_meet;exact ⟨_,_,h9⟩
        ·have j3:(z==0)=false:=by rw [FM];exact E
         have HZ:=zh E;clear E
         go_wp2_with fail
         go_meet;exact ⟨_,[x1],c6.out,b7.out,by simp⟩
       case rest=>
        obtain ⟨u1,l1,f3⟩:=hcut;have e6:=zh f3.out.1;have k6:=zh f3.out.2.1;have l0:=zh f3.out.2.2;clear f3
        go_wp2_with fail
        refine (AU 3 e6.out.dr (by omega) (by omega)).mono ?_;rintro e wq ⟨zz,rfl,E3,E4,q8,h6⟩;have c7:=zh (e6.out.drawn q8 h6);have b5:=zh (e6.out.drawnExt k6.out h6);clear q8 h6 e6 k6 c6 b7
        go_upto_if 99 with fail
        go_cut [] (fun wx=>∃(u2:Value) (l2:List Int),Hid (R1 B wx wR.heap.size ge gt n s u1 u2 l1 l2/\za wR wx/\l2.length<=2))
        case first=>
         by_cases E:zz=0
         ·have j3:(zz==0)=true:=by rw [beq_iff_eq];exact E
          have HZ:=zh E;clear E
          go_wp2_with fail
          refine r20_wp c7 b5 f2 (fun c a a' W he h=>(show a'.defers=[]/\Be w (.panicked c) W from ⟨he ▸ (show a.defers=[]/\Be w (.panicked c) W from h).1,(show a.defers=[]/\Be w (.panicked c) W from h).2⟩)) fun u2 l2 W h9 x100 x101 x102 x103 x104 x105 x106 x107=>?_
          go_wp2_with fail
          go_meet;exact ⟨_,_,h9⟩
         ·have j3:(zz==0)=false:=by rw [FM];exact E
          have HZ:=zh E;clear E
          go_wp2_with fail
          go_meet;exact ⟨_,[x2],c7.out,b5.out,by simp⟩
        case rest=>
         obtain ⟨u2,l2,f4⟩:=hcut;have A6:=zh f4.out.1;have k8:=zh f4.out.2.1;have l3:=zh f4.out.2.2;obtain ⟨w7,rfl⟩:∃w7:World,w7=wc:=⟨_,rfl⟩;have j5:Hid (Ck w7 w7.heap.size (.slice none 0 0) []):=World.ownsRow_nil _ _ _ _;clear f4 c7 b5
         go_wp2_with fail
         go_loopg [10,11] n (fun gk vf v wr=>∃(k:Nat) (lf:List Bool),v=.int .i64 k/\k<=n/\gk=n - k/\lf.length=k/\Hid (R1 B wr wR.heap.size ge gt n s u1 u2 l1 l2/\za wR wr/\Ck wr w7.heap.size vf lf/\w7.heap.size<=wr.heap.size))
         case atStart=>exact ⟨0,[],rfl,FN _,rfl,rfl,A6.out,k8.out,j5.out,Fy _⟩
         clear j5
         case round=>
          obtain ⟨k,lf,rfl,hk,rfl,s6,hQ⟩:=hrel;have e7:=zh k8.out.size;have e4:=zh s6;have C0:lf.length<=16:=by omega
          clear s6;rcases zah k n with d9 | hge2
          ·skip
           go_wp2_with fail
           refine (AU 6 hQ.out.1.dr (by omega) (by omega)).mono ?_;rintro e wd ⟨x,rfl,f5,i9,q5,V⟩;have a4:=zh (hQ.out.1.drawn q5 V);have g4:=zh (hQ.out.1.drawnExt hQ.out.2.1 V)
           have a3:Hid (Ck wd w7.heap.size u10 lf):=AK hQ.out.2.2.1 fun g I=>V.block g (World.ownsRow.lt hQ.out.2.2.1 g I).2 (fun e=>by
            obtain ⟨cs,hb⟩:=hQ.out.1.dr.blk;injection e with e;subst e;exact zn hQ.out.2.2.1 hb (by decide) I)
           have C2:w7.heap.size<=wd.heap.size:=FA hQ.out.2.2.2 V.size;clear q5 V;obtain ⟨Af,cf,rfl,E9,-⟩:=a3.out.bools;have F2:(0:Int)<=(k:Int):=by omega
           have D4:wd.cell? ⟨gt,1,none⟩=some u1:=a4.out.tk.cell (k:=1) rfl;have D5:wd.cell? ⟨gt,2,none⟩=some u2:=a4.out.tk.cell (k:=2) rfl;by_cases hx:0<x
           ·have C8:decide (0<x)=true:=FB hx
            go_wp2_with (at_builtin;refine wpList_append_own_at _ rfl _ _ 29 rfl w7.heap.size 4 iB (.bool false) 1 1 Tryz.underlying29 BF.out BZ0.out BZ1.out BZ2.out rfl (by decide) (.slice Af lf.length cf) lf.length _ rfl (World.ownsRow.alloc a3.out _) ⟨wd.heap.size,0,none⟩ 1 1 [.bool true] rfl rfl (cell_one_new _ _ _) (by simp [Value.oneCell']) (by unfold maxLen;omega) (by omega) (by simp;omega) ?_)
            intro v' w9 o I _ O;obtain ⟨a1,U⟩:=a4.out.grownB a3.out e7.out I;have c8:=zh a1;have b6:Hid (za wR w9):=Below.trans g4.out U;have d5:Hid (w7.heap.size<=w9.heap.size):=by have:=I.size;simp at this;show _<=_;omega
            have b9:Hid (Ck w9 w7.heap.size v' (lf++[true])):=Ck.app o;clear a1 U o I O
            go_wp2_with fail
            go_roundg (n - (k+1))
            case measure=>omega
            case rel=>exact ⟨k+1,lf++[true],by go_num,d9,rfl,by have:=e4.out;simp;omega,c8.out,b6.out,b9.out,d5.out⟩
           ·have C8:decide (0<x)=false:=FC hx
            go_wp2_with fail
            refine (AO (k:Int) wd (AS.of_own a4.out.o1) (by have:=l0.out;omega)).mono ?_;rintro e w' ⟨rfl,rfl⟩;generalize decide ((k:Int)∈l1)=b1
            cases b1 with
            | true=>
             go_wp2_with (at_builtin;refine wpList_append_own_at _ rfl _ _ 29 rfl w7.heap.size 4 iB (.bool false) 1 1 Tryz.underlying29 BF.out BZ0.out BZ1.out BZ2.out rfl (by decide) (.slice Af lf.length cf) lf.length _ rfl (World.ownsRow.alloc a3.out _) ⟨wd.heap.size,0,none⟩ 1 1 [.bool true] rfl rfl (cell_one_new _ _ _) (by simp [Value.oneCell']) (by unfold maxLen;omega) (by omega) (by simp;omega) ?_)
             intro v' w9 o I _ O;obtain ⟨a1,U⟩:=a4.out.grownB a3.out e7.out I;have c8:=zh a1;have b6:Hid (za wR w9):=Below.trans g4.out U;have d5:Hid (w7.heap.size<=w9.heap.size):=by have:=I.size;simp at this;show _<=_;omega
             have b9:Hid (Ck w9 w7.heap.size v' (lf++[true])):=Ck.app o;clear a1 U o I O
             go_wp2_with fail
             go_roundg (n - (k+1))
             case measure=>omega
             case rel=>exact ⟨k+1,lf++[true],by go_num,d9,rfl,by have:=e4.out;simp;omega,c8.out,b6.out,b9.out,d5.out⟩
            | false=>
             go_wp2_with fail
             refine (AO (k:Int) wd (AS.of_own a4.out.o2) (by have:=l3.out;omega)).mono ?_;rintro e w' ⟨rfl,rfl⟩;generalize decide ((k:Int)∈l2)=b2
             go_wp2_with (at_builtin;refine wpList_append_own_at _ rfl _ _ 29 rfl w7.heap.size 4 iB (.bool false) 1 1 Tryz.underlying29 BF.out BZ0.out BZ1.out BZ2.out rfl (by decide) (.slice Af lf.length cf) lf.length _ rfl (World.ownsRow.alloc a3.out _) ⟨wd.heap.size,0,none⟩ 1 1 [.bool b2] rfl rfl (cell_one_new _ _ _) (by simp [Value.oneCell']) (by unfold maxLen;omega) (by omega) (by simp;omega) ?_)
             intro v' w9 o I _ O;obtain ⟨a1,U⟩:=a4.out.grownB a3.out e7.out I;have c8:=zh a1;have b6:Hid (za wR w9):=Below.trans g4.out U;have d5:Hid (w7.heap.size<=w9.heap.size):=by have:=I.size;simp at this;show _<=_;omega
             have b9:Hid (Ck w9 w7.heap.size v' (lf++[b2])):=Ck.app o;clear a1 U o I O
             go_wp2_with fail
             go_roundg (n - (k+1))
             case measure=>omega
             case rel=>exact ⟨k+1,lf++[b2],by go_num,d9,rfl,by have:=e4.out;simp;omega,c8.out,b6.out,b9.out,d5.out⟩
          ·skip
           have s4:k=n:=by omega
           have y7:=zh s4;have D6:decide (k<n)=false:=FC (by omega);have D7:decide ((k:Int)<(n:Int))=false:=FC (by omega);have D8:¬ k<n:=by omega
           clear s4 hge2;have e8:=G.out.1.ext hQ.out.2.1;have m5:wr.cell? ⟨gm,5,none⟩=some vT:=e8.mz.cell (k:=5) rfl;have hf:=fun j=>e8.mz.frozen j
           have d6:∀j,wr.frozen? ⟨gm,j,none⟩=false:=hf;obtain ⟨A1,c1,rfl,-⟩:=Bl hQ.out.1.o1;obtain ⟨A2,c2,rfl,-⟩:=Bl hQ.out.1.o2;have t0:wr.cell? ⟨gt,0,none⟩=some (.string s):=hQ.out.1.tk.cell (k:=0) rfl;have t1:wr.cell? ⟨gt,1,none⟩=some (.slice A1 l1.length c1):=hQ.out.1.tk.cell (k:=1) rfl;have t2:wr.cell? ⟨gt,2,none⟩=some (.slice A2 l2.length c2):=hQ.out.1.tk.cell (k:=2) rfl;have a2:=zh e8;clear e8 hf
           go_wp2_with (at_builtin;refine wpList_append_own_at _ rfl _ _ 30 rfl B 87 iT (.agg #[.string ⟨#[]⟩,.slice none 0 0,.slice none 0 0]) 3 64 Tryz.underlying30 TF.out TZ0.out TZ1.out TZ2.out rfl (by decide) vT t _ rfl (a2.out.T.alloc _) ⟨wr.heap.size,0,none⟩ 1 1 [.string s,.slice A1 l1.length c1,.slice A2 l2.length c2] rfl rfl (cells3n _ _ _ _ _) (by simp [Value.oneCell']) (by unfold maxLen;omega) (by omega) (by have:=a2.out.hB;simp;omega) ?_)
           intro v' w9 o I _ O;obtain ⟨gv,cv,rfl,-,-⟩:=World.ownsRow.form o (by omega);obtain ⟨n0,n6,n9⟩:=a2.out.end1 hQ.out.1 l0.out l3.out hQ.out.2.2.1 o I;have D:w9.heap[gm]?=wr.heap[gm]?:=(I.block gm (by have:=zd a2.out.mz;simp;omega) (fun e=>zn a2.out.T a2.out.mz (by decide) e.symm)).trans (zad _ _ _ (zd a2.out.mz));have o6:w9.cell? ⟨gm,5,none⟩=some vT:=(zaa (a:=⟨gm,5,none⟩) D).trans m5;have r5:w9.frozen? ⟨gm,5,none⟩=false:=(zaj (a:=⟨gm,5,none⟩) D).trans (d6 5);have J:=zh n0;have l6:=zh n6;have k5:Hid (za w1 (w9.setCell ⟨gm,5,none⟩ (.slice (some ⟨gv,0,none⟩) (t+1) cv))):=Below.trans (za.trans G.out.2 hQ.out.2.1) (HB.out ▸ n9);clear n0 n6 n9 o I O D m5 d6 t0 t1 t2;go_upto_region 27 with fail;clear o6 r5;generalize w9.setCell ⟨gm,5,none⟩ (.slice (some ⟨gv,0,none⟩) (t+1) cv)=wv at*;obtain ⟨Af,cf,rfl,-,-⟩:=l6.out.bools;have m3:wv.cell? ⟨gm,3,none⟩=some vF:=J.out.mz.cell (k:=3) rfl;have d6:∀j,wv.frozen? ⟨gm,j,none⟩=false:=fun j=>J.out.mz.frozen j
           have y8:Hid (∀g,(Value.slice Af lf.length cf).ownBlock=some g->g<wr.heap.size):=fun g I=>(World.ownsRow.lt hQ.out.2.2.1 g I).2
           go_wp2_with (at_builtin;refine wpList_append_own_at _ rfl _ _ 28 rfl B 29 iL (.slice none 0 0) 1 24 Tryz.underlying28 LF.out LZ0.out LZ1.out LZ2.out rfl (by decide) vF t _ rfl (J.out.F.alloc _) ⟨wv.heap.size,0,none⟩ 1 1 [.slice Af lf.length cf] rfl rfl (cell_one_new _ _ _) (by simp [Value.oneCell']) (by unfold maxLen;omega) (by omega) (by have:=J.out.hB;simp;omega) ?_)
           intro v2 w9 o I _ O;obtain ⟨gv2,cv2,rfl,-,-⟩:=World.ownsRow.form o (by omega);obtain ⟨n1,o3⟩:=J.out.end2 l6.out (e4.out.trans y7.out) (FA i0 e7.out) y8.out o I;have D:w9.heap[gm]?=wv.heap[gm]?:=(I.block gm (by have:=zd J.out.mz;simp;omega) (fun e=>zn J.out.F J.out.mz (by decide) e.symm)).trans (zad _ _ _ (zd J.out.mz));have o6:w9.cell? ⟨gm,3,none⟩=some vF:=(zaa (a:=⟨gm,3,none⟩) D).trans m3;have r5:w9.frozen? ⟨gm,3,none⟩=false:=(zaj (a:=⟨gm,3,none⟩) D).trans (d6 3);have y9:=zh n1;have k7:Hid (za w1 (w9.setCell ⟨gm,3,none⟩ (.slice (some ⟨gv2,0,none⟩) (t+1) cv2))):=Below.trans k5.out (HB.out ▸ o3);clear n1 o3 o I O D m3 d6
           go_wp2_with fail
           go_roundg (many - (t+1))
           case measure=>omega
           case rel=>exact ⟨t+1,_,_,_,_,by go_num,h8,rfl,y9.out,k7.out⟩
    ·skip
     have C5:t=many:=by omega
     subst C5;have E1:decide (t<t)=false:=FC (by omega);have m7:0<t:=by omega
     obtain ⟨gT,cT,rfl,s0,-⟩:=World.ownsRow.form G.out.1.T m7;obtain ⟨gF,cF,rfl,r9,-⟩:=World.ownsRow.form G.out.1.F m7;have HcT:=zh (Bq G.out.1.T);have HcF:=zh (Bq G.out.1.F);clear hge;have n2:=zh (G.out.1);have n8:=zh (G.out.2);clear G
     go_wp2_with fail
     have n4:Hid (MS B wR wR.heap.size gm gd W H L n t t (.slice (some ⟨gF,0,none⟩) t cF) (.slice none 0 0) (.slice (some ⟨gT,0,none⟩) t cT) fs ts/\za w1 wR):=⟨n2.out,n8.out⟩;clear n2 n8;refine loop12_wp HB s0 r9 HcT HcF f2 s8 n4 (fun c a a' W he h=>(show a'.defers=[]/\Be w (.panicked c) W from ⟨he ▸ (show a.defers=[]/\Be w (.panicked c) W from h).1,(show a.defers=[]/\Be w (.panicked c) W from h).2⟩)) fun wA hA x13 x14 x143 x144 x145 x146 x147 x148 x149 x150 x151 x152 x153 x154 x155 x156 x157 x158 x159 x160 x161 x162 x163 x164 x165 x166 x167 x168 x169 x170 x171 x172 x173 x174 x175 x176 x177 x178 x179 x180 x181 x182 x183 x184 x185 x186 x187 x188 x189 x190 x191 x192 x193 x194 x195 x196 x197 x198 x199 x200 x201 x202 x203 x204 x205=>?_;clear n4;obtain ⟨a,B6⟩:=zaI t;subst B6
     go_wp2_with fail
     have hA0:=hA.out;obtain ⟨S,hS⟩:=zaI wA.heap.size;have l7:Hid (RU w1 B wA S gm gd W H L n a a (.slice (some ⟨gF,0,none⟩) a cF) (.slice none 0 0) (.slice (some ⟨gT,0,none⟩) a cT) fs ts []):=⟨HB.out,hS ▸ hA0.1.hB,hS ▸ hA0.1,World.ownsRow_nil _ _ _ _,hA0.2⟩;clear hA0 hS hA
     go_loopg [15] n (fun gk v wr=>∃(i:Nat) (vU:Value) (us:List Bool),v=.int .i64 i/\i<=n/\gk=n - i/\us.length=i/\Hid (RU w1 B wr S gm gd W H L n a a (.slice (some ⟨gF,0,none⟩) a cF) vU (.slice (some ⟨gT,0,none⟩) a cT) fs ts us))
     case atStart=>exact ⟨0,_,[],rfl,FN _,rfl,rfl,l7.out⟩
     clear l7
     case round=>
      obtain ⟨i,vU,us,rfl,hi,rfl,i2,hQ⟩:=hrel;obtain ⟨wU,rfl⟩:∃wU:World,wU=wr:=⟨_,rfl⟩;rcases zah i n with hin | hin
      ·have s2:decide (i<n)=true:=FB hin;have s3:decide ((i:Int)<(n:Int))=true:=FB (by omega);have E5:Hid (za w1 wU):=hQ.out.ex;have t7:us.length<=16:=by omega
       have A8:=zh i2;clear i2;go_upto_region 42 with fail;refine r42_wp hQ t7 (fun c a a' W he h=>(show a'.defers=[]/\Be w (.panicked c) W from ⟨he ▸ (show a.defers=[]/\Be w (.panicked c) W from h).1,(show a.defers=[]/\Be w (.panicked c) W from h).2⟩)) fun vU' x w2 h9 x211 x212 x213 x214 x215 x216 x217 x218=>?_;have A5:=zh h9;clear h9
       go_wp2_with fail
       go_roundg (n - (i+1))
       case measure=>omega
       case rel=>exact ⟨i+1,_,_,by go_num,hin,rfl,by rw [FG,A8.out];rfl,A5.out⟩
      ·have s2:decide (i<n)=false:=FC (by omega);have s3:decide ((i:Int)<(n:Int))=false:=FC (by omega);have t8:us.length=n:=by omega
       obtain ⟨Au,cu,v5,-,-⟩:=Ck.bools hQ.out.ow;rw [i2] at v5;subst v5;have a5:=l8.out;obtain ⟨mm,nn,s9,n3,n5⟩:=RU.maze hQ.out a5.1 a5.2.1 a5.2.2 HN.out s8 t8;have A3:=zh s9;have z8:=zh n3;have A4:=zh n5;have M:ze wU w.heap.size 32 #[.int .i64 0,.int .i64 0,.int .i64 0,.slice none 0 0,.slice none 0 0,.slice none 0 0]:=c9.out.1.ext hQ.out.ex;have z0:wU.cell? ⟨w.heap.size,0,none⟩=some (.int .i64 0):=M.cell (k:=0) rfl;have z1:wU.cell? ⟨w.heap.size,1,none⟩=some (.int .i64 0):=M.cell (k:=1) rfl;have z2:wU.cell? ⟨w.heap.size,2,none⟩=some (.int .i64 0):=M.cell (k:=2) rfl;have z3:wU.cell? ⟨w.heap.size,3,none⟩=some (.slice none 0 0):=M.cell (k:=3) rfl;have z4:wU.cell? ⟨w.heap.size,4,none⟩=some (.slice none 0 0):=M.cell (k:=4) rfl;have z5:wU.cell? ⟨w.heap.size,5,none⟩=some (.slice none 0 0):=M.cell (k:=5) rfl;have hfz:∀j,wU.frozen? ⟨w.heap.size,j,none⟩=false:=fun j=>M.frozen j
       have m0:wU.cell? ⟨gm,0,none⟩=some (.int .i64 W):=hQ.out.ms.mz.cell (k:=0) rfl;have m1:wU.cell? ⟨gm,1,none⟩=some (.int .i64 H):=hQ.out.ms.mz.cell (k:=1) rfl;have m2:wU.cell? ⟨gm,2,none⟩=some (.int .i64 L):=hQ.out.ms.mz.cell (k:=2) rfl;have m3:wU.cell? ⟨gm,3,none⟩=some (.slice (some ⟨gF,0,none⟩) a cF):=hQ.out.ms.mz.cell (k:=3) rfl;have m4:wU.cell? ⟨gm,4,none⟩=some (.slice Au i cu):=hQ.out.ms.mz.cell (k:=4) rfl;have m5:wU.cell? ⟨gm,5,none⟩=some (.slice (some ⟨gT,0,none⟩) a cT):=hQ.out.ms.mz.cell (k:=5) rfl;have x0:=zh M;have y6:Hid (za w1 wU):=hQ.out.ex;clear a5 s9 n3 n5 M t8 hin hQ
       go_wp2_with fail
       refine case_fin (P:=fun W=>bodyPost Tryz.prog Tryz.f26 (Be w) Exit.ret _ W) (g2:=w.heap.size) ?_ x0.out;intro WZ a8 B2 hk;have y0:WZ.cell? ⟨w.heap.size,0,none⟩=some (.int .i64 W):=a8.cell (k:=0) rfl;have y1:WZ.cell? ⟨w.heap.size,1,none⟩=some (.int .i64 H):=a8.cell (k:=1) rfl;have y2:WZ.cell? ⟨w.heap.size,2,none⟩=some (.int .i64 L):=a8.cell (k:=2) rfl;have y3:WZ.cell? ⟨w.heap.size,3,none⟩=some (.slice (some ⟨gF,0,none⟩) a cF):=a8.cell (k:=3) rfl;have y4:WZ.cell? ⟨w.heap.size,4,none⟩=some (.slice Au i cu):=a8.cell (k:=4) rfl;have y5:WZ.cell? ⟨w.heap.size,5,none⟩=some (.slice (some ⟨gT,0,none⟩) a cT):=a8.cell (k:=5) rfl;have C9:za w wU:=b4.out.trans y6.out;have C1:=A3.out.keepW (w':=WZ) (ok':=fun b=>w.heap.size<=b) (fun b hb h8=>hk b h8 (by have:=c9.out.2;have:=HB.out;omega)) (fun b hb=>by have:=c9.out.2;have:=HB.out;omega)
       exact za5 (v:=.agg #[.int .i64 W,.int .i64 H,.int .i64 L,.slice (some ⟨gF,0,none⟩) a cF,.slice Au i cu,.slice (some ⟨gT,0,none⟩) a cT]) (by simp [results,Tryz.results26,go_sem,y0,y1,y2,y3,y4,y5]) rfl
        ⟨_,mm,nn,rfl,Below.trans C9 B2,C1,z8.out,A4.out⟩
theorem samePaths_t {v':Value} {a b:List (List Int)} (w:World) (o:a=b) (h:zU w ok v a) (E:zU w ok' v' b) (I:a.length<=1000) (D:∀x∈a,x.length<=1000):
  Calls Tryz.prog 14 #[v,v'] w fun e w'=>e=.returned (.bool true)/\zT w w':=by
 refine (samePaths_calls w h E (by omega) (by rw [<-o];omega) (fun x h=>by have:=D x h;omega) (fun x h=>by have:=D x (by rw [o];exact h);omega)).mono ?_;rintro e w' ⟨rfl,G⟩;exact ⟨by rw [FB o],G⟩
theorem Bc.bound {w:World} {X Y:Nat->Prop} {g gr cap:Nat} {m:MZ} {s:RS} {pt:List Nat} (h:Bc w X Y g gr cap m s pt):Bc w (fun k=>X k/\k<w.heap.size) Y g gr cap m s pt:=
 ⟨h.blk,⟨h.xg,zd h.blk⟩,⟨h.xr,(h.row.1.lt gr rfl).2⟩,h.ne,h.yg,h.yr,h.row.1,h.row.2.1,fun k p hp=>(h.row.2.2 k p hp).bound.weaken fun b hb=>by
  rcases hb with ⟨hb | hb,o⟩
  ·exact .inl ⟨⟨hb.1,o⟩,hb.2⟩
  ·exact .inr hb⟩
theorem Bc.chg {w w':World} {X Y X':Nat->Prop} {g gr cap:Nat} {m:MZ} {s:RS} {pt:List Nat} (h:Bc w X Y g gr cap m s pt) (D:zu X' w w') (E:∀k,X k\/Y k->¬ X' k):Bc w' X Y g gr cap m s pt:=
 h.same fun b o G=>D.block b o (E b G)
structure RtB (w:World) (X Y:Nat->Prop) (g:Nat) (m:MZ) (s:RS):Prop where
 rt:∃gr cap pt,Bc w X Y g gr cap m s pt
 xb:∀k,X k->k<w.heap.size
 yb:∀k,Y k->k<w.heap.size
 good:zZ m
 lens:Lens m
 ch:zw m s.ch
 st:0<=s.steps
section
variable {w w':World} {X Y X':Nat->Prop} {g:Nat} {m:MZ} {s:RS}
theorem RtB.chg (h:RtB w X Y g m s) (o:zu X' w w') (I:∀k,X k\/Y k->¬ X' k):RtB w' X Y g m s:=by
 obtain ⟨⟨gr,cap,pt,J⟩,h1,h2,h3,h4,E,G⟩:=h;exact ⟨⟨gr,cap,pt,J.chg o I⟩,fun k D=>zam (h1 k D) o.size,fun k D=>zam (h2 k D) o.size,h3,h4,E,G⟩
theorem RtB.ext (h:RtB w X Y g m s) (o:za w w'):RtB w' X Y g m s:=h.chg (zu.of_ext (X:=fun _=>False) o) (fun _ _ h=>h)
theorem RtB.step (h:RtB w X Y g m s) (n:Nat) (s':RS) (d:Bool) (Q:s'.done=d) (I:RS.run m n s=s') (U:n<=1000000) (J:n=0\/s.steps<=3000000000000000000):
  Calls Tryz.prog 83 #[.pointer (some ⟨g,0,none⟩),.int .i64 n] w fun e w'=>e=.returned (.bool d)/\RtB w' (fun k=>X k\/(w.heap.size<=k/\k<w'.heap.size)) Y g m s'/\zu X w w':=by
 obtain ⟨⟨gr,cap,pt,V⟩,h1,h2,h3,h4,E,M⟩:=h;refine (stepN_calls (X:=fun k=>X k\/w.heap.size<=k) n w (V.widen fun _ h=>.inl h) h3 h4 E U M J (fun _ h=>.inr h) h2).mono ?_;rintro e w' ⟨rfl,gr',cap',pt',D,o⟩;rw [I] at D⊢;refine ⟨by rw [Q],⟨⟨gr',cap',pt',D.bound.widen ?_⟩,?_,?_,h3,h4,?_,?_⟩,?_⟩
 ·rintro k ⟨hk | hk,G⟩
  ·exact .inl hk
  ·exact .inr ⟨hk,G⟩
 ·rintro k (hk | hk)
  ·exact zam (h1 k hk) o.size
  ·exact hk.2
 ·exact fun k hk=>zam (h2 k hk) o.size
 ·rw [<-I];exact run_isCh n E
 ·have:=run_steps (m:=m) n E;rw [I] at this;omega
 ·exact ⟨o.os,o.tape,o.output,o.size,fun b O hx=>o.block b O (by
   rintro (h | h)
   ·exact hx h
   ·omega)⟩
theorem RtB.fb (h:RtB w X Y g m s):∀k,X k\/Y k->k<w.heap.size:=fun k o=>o.elim (h.xb k) (h.yb k)
theorem RtB.choices (h:RtB w X Y g m s):Calls Tryz.prog 85 #[.pointer (some ⟨g,0,none⟩)] w fun e w'=>∃v',e=.returned v'/\Mk w w' v' s.ch:=by
 obtain ⟨⟨gr,cap,pt,D⟩,h1,h2,h3,h4,o,E⟩:=h;exact choices_c w D (by have:=o.len300 h3;omega)
theorem RtB.stepsC (h:RtB w X Y g m s):Calls Tryz.prog 84 #[.pointer (some ⟨g,0,none⟩)] w fun e w'=>e=.returned (.int .i64 s.steps)/\w=w':=by
 obtain ⟨⟨gr,cap,pt,o⟩,h1,h2,h3,h4,D,E⟩:=h;exact steps_c w o
theorem RtB.found (h:RtB w X Y g m s):Calls Tryz.prog 98 #[.pointer (some ⟨g,0,none⟩)] w (Di w m s.ch):=by
 obtain ⟨⟨gr,cap,pt,D⟩,h1,h2,h3,h4,o,E⟩:=h;exact found_c w D h3 h4 o
end
end
section
open Go.RowKit
structure CZ (m:MZ) (s:RS):Prop where
 ch:zw m s.ch
 st:0<=s.steps
 dn:s.done=(loadS m s.ch s.steps).done
 op:s.ch≠[]->AA m s.ch=true
theorem rinv_load {m:MZ}:CZ m (loadS m [] 0):=⟨.nil,Int.le_refl _,rfl,fun h=>absurd rfl h⟩
theorem CZ.one {m:MZ} {s:RS} (h:CZ m s):CZ m (s.one m):=by
 unfold RS.one
 split
 ·rename_i c o
  obtain ⟨h1,h2,h3⟩:=stepC_some h.ch o;refine ⟨h1,by have:=h.st;show 0<=s.steps+1;omega,?_,fun _=>h3⟩;show zV m c=(zV m c || (decide (c=[]) && decide (0<s.steps+1)));have:decide (c=[])=false:=FC (by rintro rfl;simp at h2);rw [this,Bool.false_and,Bool.or_false]
 ·refine ⟨.nil,by have:=h.st;show 0<=s.steps+1;omega,?_,fun h=>absurd rfl h⟩;show true=(zV m [] || (decide (([]:List Int)=[]) && decide (0<s.steps+1)));have h1:decide (0<s.steps+1)=true:=FB (by have:=h.st;omega);rw [h1];simp
theorem CZ.run {m:MZ}:∀(n:Nat) {s:RS},CZ m s->CZ m (RS.run m n s)
 | 0,s,h=>h
 | n+1,s,h=>by
  unfold RS.run
  split
  ·exact h
  ·exact CZ.run n h.one
theorem CZ.loadE {m:MZ} {s:RS} (h:CZ m s) (o:AV m=0):loadE m s.ch s.steps=0:=by
 unfold Go.Proofs.YtjomnbdjajjgfaaGreatDoor.loadE;rw [o,if_neg (by simp),if_neg (by have:=h.st;omega),if_pos];rw [AX.2 h.ch,Bool.true_and,zaD,FI];by_cases h0:s.ch=[]
 ·exact .inl h0
 ·exact .inr (h.op h0)
theorem CZ.loadS {m:MZ} {s:RS} (h:CZ m s):loadS m s.ch s.steps=s:=by
 obtain ⟨c,d,n⟩:=s;have h1:d=(zV m c || (decide (c=[]) && decide (0<n))):=h.dn;show RS.mk c (zV m c || (decide (c=[]) && decide (0<n))) n=RS.mk c d n;rw [<-h1]
theorem CZ.open {m:MZ} {s:RS} (h:CZ m s) (o:AV m=0) (D:s.ch≠[]):openO m s.ch=true:=by
 unfold openO EH;rw [AX.2 h.ch,h.op D,FB o];rfl
theorem CZ.done {m:MZ} {s:RS} (h:CZ m s) (D:s.done=true) (o:zV m s.ch=false):s.ch=[]:=by
 have h1:=h.dn;rw [D] at h1;unfold Go.Proofs.YtjomnbdjajjgfaaGreatDoor.loadS at h1;simp only [o,Bool.false_or] at h1;have h2:=h1.symm;rw [FK,FI] at h2;exact h2.1
theorem loadB_calls {Y okc:Nat->Prop} {vc:Value} {m:MZ} {s:RS} (w:World) (hm:zL w Y v m) (M:Lens m) (E:zg w okc vc s.ch) (I:s.ch.length<=20000000000000) (o:∀b,Y b->b<w.heap.size) (Q:AV m=0) (hI:CZ m s):
  Calls Tryz.prog 80 #[v,vc,.int .i64 s.steps] w fun e w'=>∃g,e=.returned (.tuple #[.pointer (some ⟨g,0,none⟩),.int .i64 0])/\za w w'/\RtB w' (fun k=>w.heap.size<=k/\k<w'.heap.size) Y g m s:=by
 refine (load_calls s.steps w hm M E I o).mono ?_;have D:=hI.loadE Q;rintro e w' ⟨v',rfl,J,h | ⟨h1,h2,h3,g,gr,cap,pt,rfl,O⟩⟩
 ·exact absurd D h.1
 ·rw [hI.loadS] at O;exact ⟨g,by rw [D];rfl,J,⟨gr,cap,pt,O.bound⟩,fun k G=>G.2,fun k G=>zam (o k G) J.size,h2,M,h3,hI.st⟩
structure OneX (w wr:World) (X:Nat->Prop) (g:Nat) (m:MZ) (s:RS):Prop where
 ext:za w wr
 rt:RtB wr X (fun b=>b<w.heap.size) g m s
 lo:∀k,X k->w.heap.size<=k
 inv:CZ m s
section
variable {w wr w':World} {X X':Nat->Prop} {g g':Nat} {m:MZ} {s s':RS}
theorem OneX.more (h:OneX w wr X g m s) (o:za wr w'):OneX w w' X g m s:=⟨h.ext.trans o,h.rt.ext o,h.lo,h.inv⟩
theorem OneX.other (h:OneX w wr X g m s) (D:∀k,X' k->w.heap.size<=k) (I:∀k,X k->¬ X' k) (E:zu X' wr w'):OneX w w' X g m s:=
 ⟨Below.trans h.ext (E.below h.ext.size D),h.rt.chg E (fun k o G=>o.elim (fun o=>I k o G) (fun o=>by have:=D k G;omega)),h.lo,h.inv⟩
theorem OneX.step (h:OneX w wr X g m s) (n:Nat) (G:n<=1000000) (D:n=0\/s.steps<=3000000000000000000):
  Calls Tryz.prog 83 #[.pointer (some ⟨g,0,none⟩),.int .i64 n] wr fun e w'=>e=.returned (.bool (RS.run m n s).done)/\OneX w w' (fun k=>X k\/(wr.heap.size<=k/\k<w'.heap.size)) g m (RS.run m n s)/\zu X wr w':=by
 refine (h.rt.step n _ _ rfl rfl G D).mono ?_;rintro e w' ⟨rfl,I,E⟩;exact ⟨rfl,⟨Below.trans h.ext (E.below h.ext.size h.lo),I,fun k o=>o.elim (h.lo k) (fun o=>FA h.ext.size o.1),h.inv.run n⟩,E⟩
end
theorem found_len {m:MZ} {ch:List Int} (g:zZ m) (E:Lens m) (D:zw m ch):(Cm m ch).length<=1000/\∀x∈Cm m ch,x.length<=1000:=by
 have o:=D.sok g E;unfold Cm
 split
 ·exact ⟨by have:=o.pl;have:=g.tk;omega,o.pp⟩
 ·exact ⟨by simp,fun x G=>by cases G⟩
end
section
open Go.RowKit
attribute [local go_sem ↓] Go.wp_at_zero Go.wp_at_succ
attribute [local go_sem] Oper.semAt_some
theorem CV (w:World) (ok:Nat->Prop):zU w ok (.slice none 0 0) []:=⟨[],⟨none,0,rfl,Fy _,Ba.nil _ _ _ _⟩,fun i x o=>by simp at o⟩
structure RB (W:World) (g:Nat) (a b c0 c1 c2 d:Value):Prop where
 p:ze W (g+3) 22 #[a]
 m:ze W (g+4) 23 #[b]
 y:ze W (g+5) 41 #[c0,c1,c2]
 e:ze W (g+6) 42 #[d]
theorem RB.ext {W W':World} {g:Nat} {a b c0 c1 c2 d:Value} (h:RB W g a b c0 c1 c2 d) (o:za W W'):RB W' g a b c0 c1 c2 d:=⟨h.p.ext o,h.m.ext o,h.y.ext o,h.e.ext o⟩
end
section
open Go.RowKit
theorem lensL_all:∀{ks:List PT},(∀k∈ks,k.Lens)->PT.LensL ks
 | [],_=>by unfold PT.LensL;exact True.intro
 | k :: ks,h=>by
  unfold PT.LensL;exact ⟨h k (zaw ..),lensL_all fun x o=>h x (zaf _ o)⟩
theorem Ey:PT.zero.Lens:=by
 unfold PT.zero PT.Lens;exact ⟨by simp,by simp,lensL_all fun k o=>absurd o (za8)⟩
theorem kidsR_lens {f:Int->Nat->Int×PT×Nat}:∀(l:List Int) (k:Nat) (acc:List PT),(∀n k,(f n k).2.1.Lens)->(∀p∈acc,p.Lens)->(∀p∈(Az f l k acc).2.1,p.Lens)/\(Az f l k acc).2.1.length<=acc.length+l.length
 | [],k,acc,_,o=>by unfold Az;exact ⟨o,Nat.le_add_right ..⟩
 | n :: l,k,acc,hf,o=>by
  unfold Az;by_cases h0:(f n k).1=0
  ·rw [if_pos h0]
   obtain ⟨h1,h2⟩:=kidsR_lens l (f n k).2.2 (acc++[(f n k).2.1]) hf (fun p hp=>by
    rcases za0.1 hp with hp | hp
    ·exact o p hp
    ·rw [zar.1 hp];exact hf n k)
   refine ⟨h1,?_⟩;simp only [FG,zaG,zaH] at h2⊢;omega
  ·rw [if_neg h0];exact ⟨fun p hp=>absurd hp (za8),by simp⟩
theorem sideP_len (m:MZ) (ch:List Int) (t:Nat):(Dd m ch t).length<=1000:=by
 unfold Dd Dq
 split
 ·rename_i h
  unfold Cq;refine FA (zan _ _) ?_;have h1:=(zZ.of h.1).dim.n1;have h2:m.n=m.w*m.h*m.l:=rfl;simp;omega
 ·simp
theorem candO_len {m:MZ} (o:Lens m) (ch:List Int):(AD m ch).length<=400000000000:=by
 unfold AD
 split
 ·exact Dv o ch
 ·simp
theorem proveP_lens {m:MZ} (o:Lens m):∀(f:Nat) (ch:List Int) (k:Nat),(zk m f ch k).2.1.Lens
 | 0,ch,k=>by unfold zk;exact Ey
 | f+1,ch,k=>by
  unfold zk
  split
  ·exact Ey
  ·split
   ·exact Ey
   ·split
    ·rename_i t _
     show PT.Lens (.node t (Dd m ch t) []);unfold PT.Lens;have:=sideP_len m ch t;exact ⟨by omega,by simp,lensL_all fun k D=>absurd D (za8)⟩
    ·obtain ⟨h1,h2⟩:=kidsR_lens (f:=fun n k=>zk m f (ch++[n]) k) (AD m ch) (k+1) [] (fun n k=>proveP_lens o f _ k) (fun p hp=>absurd hp (za8));have h3:=candO_len o ch;simp only
     split
     ·show PT.Lens (.node _ [] _);unfold PT.Lens;refine ⟨by simp,?_,lensL_all h1⟩;simp only [zaH] at h2;omega
     ·exact Ey
theorem makeP_lens {m:MZ} (o:Lens m):(zA m).2.Lens:=by
 unfold zA
 split
 ·exact proveP_lens o _ _ _
 ·exact Ey
theorem hset {g k:Nat} {x:Value}:∀b,b≠g->(W.setCell ⟨g,k,none⟩ x).heap[b]?=W.heap[b]?:=fun b o=>FH W ⟨g,k,none⟩ _ b o
theorem below_le {B g:Nat} {a b c:World} (h:Below B a b) (o:Below g b c) (D:B<=g):Below B a c:=h.trans ⟨o.os,o.tape,o.output,o.size,fun k E=>o.block k (by omega)⟩
theorem Ce.wk {w:World} (h:Ce w ok v p) (D:∀b,ok b->b<w.heap.size->ok' b):Ce w ok' v p:=h.bound.keepW (fun b o E=>rfl) (fun b o=>D b o.1 o.2)
end
section
open Go.RowKit
attribute [local go_sem ↓] Go.wp_at_zero Go.wp_at_succ
attribute [local go_sem] Oper.semAt_some
mutual
def DZ:PT->PT->Bool
 | .node t s ks,.node t' s' ks'=>decide (t=t') && (decide (s=s') && (decide (ks.length=ks'.length) && sameL ks ks'))
def sameL:List PT->List PT->Bool
 | [],_=>true
 | _ :: _,[]=>true
 | k :: ks,k' :: ks'=>DZ k k' && sameL ks ks'
end
theorem sameL_no:∀{ks ks':List PT} {k:Nat} (h:k<ks.length) (o:k<ks'.length),DZ ks[k] ks'[k]=false->sameL ks ks'=false
 | a :: ks,b :: ks',0,_,_,e=>by
  have e':DZ a b=false:=e;unfold sameL;rw [e'];rfl
 | a :: ks,b :: ks',k+1,h,o,e=>by
  have:=sameL_no (ks:=ks) (ks':=ks') (k:=k) (by simpa using h) (by simpa using o) (by simpa using e);unfold sameL;rw [this,Bool.and_false]
theorem sameL_yes:∀{ks ks':List PT},(∀j (h:j<ks.length) (o:j<ks'.length),DZ ks[j] ks'[j]=true)->sameL ks ks'=true
 | [],_,_=>by unfold sameL;rfl
 | _ :: _,[],_=>by unfold sameL;rfl
 | a :: ks,b :: ks',h=>by
  unfold sameL;have h0:DZ a b=true:=h 0 (by simp) (by simp);rw [h0,sameL_yes (ks:=ks) (ks':=ks') fun j h1 h2=>h (j+1) (by simpa using h1) (by simpa using h2)];rfl
mutual
theorem sameP_refl:∀(p:PT),DZ p p=true
 | .node t s ks=>by unfold DZ;simp [sameL_refl ks]
theorem sameL_refl:∀(ks:List PT),sameL ks ks=true
 | []=>by unfold sameL;rfl
 | k :: ks=>by unfold sameL;rw [sameP_refl k,sameL_refl ks];rfl
end
theorem psame_calls:∀(N:Nat) {ok ok':Nat->Prop} {v v':Value} {p p':PT} (w:World),Ce w ok v p->Ce w ok' v' p'->p.size<=N->p.Lens->p'.Lens->
  Calls Tryz.prog 57 #[v,v'] w fun e w'=>e=.returned (.bool (DZ p p'))/\za w w'
 | 0,ok,ok',v,v',.node t s ks,p',w,h,_,hN,_,_=>by unfold PT.size at hN;omega
 | N+1,ok,ok',v,v',.node t s ks,.node t' s' ks',w,h,U,hN,hl,c9=>by
  have IH:Hid (∀(ok ok':Nat->Prop) (v v':Value) (p p':PT) (w:World),Ce w ok v p->Ce w ok' v' p'->p.size<=N->p.Lens->p'.Lens->Calls Tryz.prog 57 #[v,v'] w fun e w'=>e=.returned (.bool (DZ p p'))/\za w w'):=fun ok ok' v v' p p' w=>psame_calls N w
  cases h with
  | mk hs hk he=>
  rename_i vs vk cs
  cases U with
  | mk d9 f0 c6=>
  rename_i vs' vk' cs'
  have HS:=zh hs;have e6:=zh d9;obtain ⟨As,c1,rfl,-,-⟩:=hs;obtain ⟨As',c1',rfl,-,-⟩:=d9;obtain ⟨Ak,ck,rfl,g4,d8⟩:=hk;obtain ⟨Ak',ck',rfl,f6,a4⟩:=f0;have e5:=zh d8;have e2:=zh he;have b4:=zh a4;have b1:=zh c6;unfold PT.Lens at hl c9;obtain ⟨f1,g6,d6⟩:=hl;obtain ⟨d5,f9,a3⟩:=c9;have e4:=zh (lensL_mem d6);have b3:=zh (lensL_mem a3);have e7:Hid (∀k∈ks,k.size<=PT.sizeL ks):=size_mem;have c0:=fun (w:World) (W:World) (hW:za w W) (h:zg w ok (.slice As s.length c1) s) (U:zg w ok' (.slice As' s'.length c1') s')=>EN W (h.below hW) (U.below hW) f1 d5
  have D:Hid (∀W,za w W->Calls Tryz.prog 15 #[.slice As s.length c1,.slice As' s'.length c1'] W fun e w'=>e=.returned (.bool (decide (s=s')))/\zT W w'):=fun W hW=>c0 w W hW HS.out e6.out
  unfold PT.size at hN;obtain ⟨R,hR⟩:=zaI (DZ (.node t s ks) (.node t' s' ks'));rw [<-hR];unfold DZ at hR;have HR:=zh hR;clear d8 he d6 a4 c6 a3 c0 hR
  go_enter Tryz.func57,Tryz.ntmps57
  go_upto_region 1 with fail;obtain ⟨a9,p0,p1,p2⟩:=box3 w (.int .i64 t) (.slice As s.length c1) (.slice Ak ks.length ck);have b0:(w.alloc (.cells #[.int .i64 t,.slice As s.length c1,.slice Ak ks.length ck] 41)).heap.size=w.heap.size+1:=by simp
  generalize w.alloc _=w1 at a9 p0 p1 p2 b0⊢;obtain ⟨V,q0,q1,q2⟩:=box3 w1 (.int .i64 t') (.slice As' s'.length c1') (.slice Ak' ks'.length ck');generalize w1.alloc _=w2 at V q0 q1 q2⊢;rw [b0] at q0 q1 q2;obtain ⟨gp,c7⟩:=zaI w.heap.size;rw [<-c7] at p0 p1 p2 q0 q1 q2⊢;have a6:=zh V;have p0:=fun W h=>p0 W (a6.out.trans h)
  have p1:=fun W h=>p1 W (a6.out.trans h)
  have p2:=fun W h=>p2 W (a6.out.trans h)
  have o:=zh (a9.trans V);have J:za w2 w2:=za.refl w2;clear a9 V c7 b0;by_cases ht:t=t'
  ·have e0:(t != t')=false:=by simp [ht]
   by_cases I:s=s'
   ·have G:decide (s=s')=true:=FB I;by_cases E:ks.length=ks'.length
    ·have c8:((ks.length:Int) != (ks'.length:Int))=false:=by simp [E]
     have a2:(ks.length != ks'.length)=false:=by simp [E]
     rw [G] at D;have b5:Hid (R=sameL ks ks'):=by (show _=_);rw [HR.out,FB ht,FB I,FB E];rfl
     clear ht I G HR
     go_wp2_with fail
     refine (D.out w2 o.out).mono ?_;rintro e w3 ⟨rfl,hD⟩;obtain ⟨nd,rfl⟩:=hD;have J:za w2 (w2.drewN nd):=(za.refl w2).drewN nd;generalize w2.drewN nd=w3 at J⊢
     go_wp2_with fail
     clear c8 a2 e0 D;go_loopw [5] (fun i wr=>∃k:Nat,k<=ks.length/\i=.int .i64 k/\Hid (∀j,j<k->∀(h:j<ks.length) (U:j<ks'.length),DZ ks[j] ks'[j]=true)/\Hid (za w2 wr)) (fun i _=>ks.length - (intOf i).toNat)
     case atStart=>exact ⟨0,FN _,rfl,(fun j hj=>by omega),J⟩
     have e3:=zh E;clear J E
     case round=>
      obtain ⟨k,hk,rfl,a0,hE⟩:=hrel;obtain ⟨wk,rfl⟩:∃wk:World,wk=wr:=⟨_,rfl⟩;have J:za w2 wk:=hE.out;by_cases O:k<ks.length
      ·have d7:(k:Int)<(ks.length:Int):=by omega
       have M:k<ks'.length:=by have:=e3.out;omega
       have f2:(k:Int)<(ks'.length:Int):=by omega
       have kk0:(0:Int)<=(k:Int):=by omega
       obtain ⟨b,off,rfl,h0,h1,h2⟩:=kidsAt e5.out O;obtain ⟨b',off',rfl,b6,b7,b8⟩:=kidsAt b4.out M;have r0:=za.rule (o.out.cell h0);have r1:=za.rule (o.out.cell h1);have r2:=za.rule (o.out.cell h2);have s0:=za.rule (o.out.cell b6);have s1:=za.rule (o.out.cell b7);have s2:=za.rule (o.out.cell b8);have b2:Hid (∀W,za w2 W->Calls Tryz.prog 57 #[_,_] W fun e w'=>e=.returned (.bool (DZ ks[k] ks'[k]))/\za W w'):=fun W hW=>IH.out _ _ _ _ _ _ W ((e2.out k O).ext (o.out.trans hW)) ((b1.out k M).ext (o.out.trans hW)) (by have:=e7.out _ (Fz O);omega) (e4.out _ (Fz O)) (b3.out _ (Fz M))
       obtain ⟨z,hz⟩:=zaI (DZ ks[k] ks'[k]);rw [<-hz] at b2;have HZ:=zh hz;clear h0 h1 h2 b6 b7 b8 hz;go_upto_region 6 with fail;refine zab (S:=(fun W=>za w2 W)) zG (J.drew) fun zH=>?_;have a8:za w2 wk.drew:=zH;generalize wk.drew=wd at zH a8⊢;refine zi 0 zH ?_;refine zi 1 zH ?_;simp only [zc,Fv];refine zi 2 zH ?_;refine zi 3 zH ?_;simp only [zc,Fv];refine zi 4 zH ?_;refine zi 5 zH ?_;simp only [zc,Fv];refine zi 6 zH ?_;refine zi 7 zH ?_;simp only [zc,Fv];refine zi 8 zH ?_;refine zi 9 zH ?_;simp only [zc,Fv];refine BO 10 fun K hK=>?_;go_simp;go_at_call 57;refine (b2.out _ zH).mono ?_;rintro e w9 ⟨rfl,e8⟩;go_simp;refine zaJ hK (zH.trans e8) fun zH=>?_;clear hK K;try simp only [zc,Fv]
       refine zi 11 zH ?_;simp only [zc,Fv];refine zao (by kernel_rfl) ?_ _
       cases z with
       | true=>
        have a5:Hid (∀j,j<k+1->∀(h:j<ks.length) (U:j<ks'.length),DZ ks[j] ks'[j]=true):=fun j hj h U=>by
         rcases zah j k with h1 | h1
         ·exact a0.out j h1 h U
         ·have:j=k:=by omega
          subst this;exact HZ.out.symm
        have a7:=zh zH;clear zH J a8 r0 r1 r2 s0 s1 s2
        go_wp2_with fail
        go_roundw
        case rel=>exact ⟨k+1,by omega,by go_num,a5,a7⟩
        case measure=>simp [intOf];omega
       | false=>
        have Q:Hid (R=false):=by (show _=_);rw [b5.out];exact sameL_no O M HZ.out.symm
        have a7:=zh (o.out.trans zH);clear zH J a8 r0 r1 r2 s0 s1 s2
        go_wp2_with fail
        go_ret;exact ⟨zm Q.out.symm,a7.out⟩
      ·have Q:Hid (R=true):=by (show _=_);rw [b5.out];exact sameL_yes fun j h U=>a0.out j (by omega) h U
       have d7:¬ ((k:Int)<(ks.length:Int)):=by omega
       go_wp2_with fail
       go_ret;exact ⟨zm Q.out.symm,o.out.trans J⟩
    ·have c8:((ks.length:Int) != (ks'.length:Int))=true:=by rw [bne_iff_ne];omega
     have a2:(ks.length != ks'.length)=true:=by rw [bne_iff_ne];exact E
     rw [G] at D;have Q:Hid (R=false):=by (show _=_);rw [HR.out,FC E];simp
     clear ht I G HR
     go_wp2_with fail
     refine (D.out w2 o.out).mono ?_;rintro e w3 ⟨rfl,hD⟩;obtain ⟨nd,rfl⟩:=hD;have J:za w2 (w2.drewN nd):=(za.refl w2).drewN nd;generalize w2.drewN nd=w3 at J⊢
     go_wp2_with fail
     go_ret;exact ⟨zm Q.out.symm,o.out.trans J⟩
   ·have G:decide (s=s')=false:=FC I;rw [G] at D;have Q:Hid (R=false):=by (show _=_);rw [HR.out,FC I];simp
    clear ht I G HR
    go_wp2_with fail
    refine (D.out w2 o.out).mono ?_;rintro e w3 ⟨rfl,hD⟩;obtain ⟨nd,rfl⟩:=hD;have J:za w2 (w2.drewN nd):=(za.refl w2).drewN nd;generalize w2.drewN nd=w3 at J⊢
    go_wp2_with fail
    go_ret;exact ⟨zm Q.out.symm,o.out.trans J⟩
  ·have e0:(t != t')=true:=by simp [ht]
   have Q:Hid (R=false):=by (show _=_);rw [HR.out,FC ht];rfl
   clear ht HR
   go_wp2_with fail
   go_ret;exact ⟨zm Q.out.symm,o.out⟩
end
section
open Go.RowKit
attribute [local go_sem ↓] Go.wp_at_zero Go.wp_at_succ
theorem pref_intss {w:World} {A:Option Addr} {n c N:Nat} {l:List (List Int)} (h:zU w ok (.slice A n c) l) (O:N<=n):zU w ok (.slice A N c) (l.take N):=by
 obtain ⟨vs,⟨A',c',e,Q,J,M⟩,he⟩:=h;injection e with e1 e2 e3;subst e1 e2 e3;refine ⟨vs.take N,⟨A,c,by rw [za3,Nat.min_eq_left (by omega)],by rw [za3];omega,by simp [J],fun hp=>?_⟩,fun i x E=>?_⟩
 ·rw [za3] at hp;obtain ⟨b,off,e,G,o⟩:=M (by omega);refine ⟨b,off,e,G,fun j u D=>o j u ?_⟩;rw [List.getElem?_take] at D
  split at D
  ·exact D
  ·cases D
 ·rw [List.getElem?_take] at E⊢
  split at E
  ·rename_i I
   rw [if_pos I];exact he i x E
  ·cases E
end
section
open Go.RowKit
theorem Ce.one {w:World} {g:Nat} (t:Int) (o:ze w g 41 #[a,b,c]) (D:ok g) (h:Ce w ok (.agg #[a,b,c]) p):Ce w ok (.agg #[.int .i64 t,.slice none 0 0,.slice (some ⟨g,0,none⟩) 1 1]) (.node t [] [p]):=
 .mk (cs:=[a,b,c]) (zg.nil _ _) ⟨_,_,rfl,Fy _,rfl,fun _=>⟨g,0,rfl,D,fun j u G=>by rw [Nat.zero_add];exact ze.cell (cs:=#[a,b,c]) o (by simpa using G)⟩⟩ (fun i E=>by
  match i,E with
  | 0,_=>exact h)
theorem Ce.two {w:World} {g:Nat} {d e f:Value} {q:PT} (t:Int) (D:ze w g 41 #[a,b,c,d,e,f]) (E:ok g) (h:Ce w ok (.agg #[a,b,c]) p) (o:Ce w ok (.agg #[d,e,f]) q):Ce w ok (.agg #[.int .i64 t,.slice none 0 0,.slice (some ⟨g,0,none⟩) 2 2]) (.node t [] [p,q]):=
 .mk (cs:=[a,b,c,d,e,f]) (zg.nil _ _) ⟨_,_,rfl,Fy _,rfl,fun _=>⟨g,0,rfl,E,fun j u I=>by rw [Nat.zero_add];exact ze.cell (cs:=#[a,b,c,d,e,f]) D (by simpa using I)⟩⟩ (fun i G=>by
  match i,G with
  | 0,_=>exact h
  | 1,_=>exact o)
def GivesZ {α:Type} (n:Nat) (P:Program) (g:Nat) (lb:Array Value) (encs:α->Array Value) (G:Nat->α->World->Prop) (N:Nat) (Z:Nat->Prop) (w:World):Prop:=
 ∀(l:Nat) (J:Nat->World->Prop) (Jx:World->Prop) (W:World),za w W->w.heap.size<=l->l<W.heap.size->(∀k A B,J k A->Below W.heap.size A B->J k B)->(∀A B,Jx A->Below W.heap.size A B->Jx B)->
  (∀k x W1,k<N->J k W1->G k x W1->YieldAt Fence.wide (n - 1) P l (encs x) W1 fun e W'=>(e=.returned (.bool true)/\J (k+1) W'/\zu (fun b=>b=l\/Z b) W1 W')\/(e=.returned (.bool false)/\Jx W'/\∀b,W.heap.size<=b->b<W1.heap.size->W'.heap[b]?=W1.heap[b]?))->
  J 0 W->
  CallsIn Fence.wide n P g (#[.func (.yield l) #[] #[]]++lb) W fun e W'=>(∃v,e=.returned v)/\(J N W'\/Jx W')
end
section
open Go.RowKit
attribute [local go_sem ↓] Go.wp_at_zero Go.wp_at_succ
attribute [local go_sem] Oper.semAt_some
theorem yield_any {m:Nat} {P:Program} {l:Nat} {args:Array Value} {R:Ending->World->Prop} (h:YieldAt Fence.wide m P l args W R):
  ∃fn tmps assign body,(Instr.yield l args).run P W=.ok (.round l fn tmps assign body) W/\∀m',RoundIn Fence.wide m' P l fn tmps assign body W R:=by
 obtain ⟨fn,tmps,assign,body,D,o⟩:=h;exact ⟨fn,tmps,assign,body,D,fun m'=>⟨o.1,fun c cs _=>o.2 c cs (room_wide _)⟩⟩
theorem fold_one (p:Tmp) (v:Value) (T:Array Value):(#[p].zip #[v]).foldl (fun t (p,v)=>t.setIfInBounds p v) T=T.setIfInBounds p v:=by
 simp
theorem Ce.inv {w:World} {t:Int} {vs vk:Value} (h:Ce w ok (.agg #[.int .i64 t,vs,vk]) p):∃side kids cs,p=.node t side kids/\zg w ok vs side/\AS w ok 3 vk kids.length cs/\
  ∀(i:Nat) (o:i<kids.length),Ce w ok (.agg #[cs.getD (i*3) undef,cs.getD (i*3+1) undef,cs.getD (i*3+2) undef]) kids[i]:=by
 cases h with
 | mk h1 h2 h3=>exact ⟨_,_,_,rfl,h1,h2,h3⟩
end
section
open Go.ChangeShapes Go.WideShapes Go.ChangeAt Go.RowKit
theorem spot_none {w:World} {a:Addr} (h:w.cell? a=some v):a.spot=none:=by
 unfold World.cell? at h
 split at h
 ·split at h
  ·cases h
  ·rename_i h1
   cases o:a.spot
   ·rfl
   ·rw [o] at h1;simp at h1
 ·cases h
theorem addr_at {a:Addr} (h:a.spot=none) (n:Nat):a.add n=⟨a.block,a.off+n,none⟩:=by
 obtain ⟨b,o,s⟩:=a;simp only at h;subst h;unfold Addr.add
 split
 ·rename_i h0;subst h0;rfl
 ·rfl
theorem chooseList {β:Type} {p:Nat->β->Prop}:∀(n:Nat),(∀i,i<n->∃b,p i b)->∃l:List β,l.length=n/\∀i b,l[i]?=some b->p i b
 | 0,_=>⟨[],rfl,fun i b h=>by simp at h⟩
 | n+1,h=>by
  obtain ⟨l,E,h1⟩:=chooseList n (fun i hi=>h i (by omega));obtain ⟨b,G⟩:=h n (by omega);refine ⟨l++[b],by simp [E],fun i x o=>?_⟩;rcases zah i l.length with hi | hi
  ·rw [FD hi] at o;exact h1 i x o
  ·have D:i=l.length:=by
    rcases zah i (l++[b]).length with h2 | h2
    ·simp at h2;omega
    ·rw [zae h2] at o;cases o
   subst D;rw [FE (Fy _),Nat.sub_self] at o;have:b=x:=by simpa using o
   subst this;rw [E];exact G
section
variable {H:Type} {enc:TypeId×Value->H} {w:World} {base:Nat} {held:Bool} {fuel:Nat} {cs:List Value} {x:DataW H×List MemPlace}
theorem sliceOpen {t e:TypeId} {sz:Nat} (ht:Tryz.prog.underlying t=some (.slice e)) (Q:Tryz.prog.cellsOf e=sz) (h0:0<sz) (h:DataW.trod enc Tryz.prog w base (fun _=>true) held fuel t cs=some x):
  ∃A len c,cs=[.slice A len c]/\len<=c/\len<=9223372036854775807/\(0<len->∃b off,A=some ⟨b,off,none⟩/\∀i,i<len->∃(cl:List Value) (n:Nat) (y:DataW H×List MemPlace),cl.length=sz/\(∀j,j<sz->w.cell? ⟨b,off+(i*sz+j),none⟩=cl[j]?)/\DataW.trod enc Tryz.prog w base (fun _=>true) held n e cl=some y):=by
 rcases DataW.trod_slice ht h with ⟨rfl,_⟩ | ⟨a,len,cap,elems,rest,n,_,rfl,_,hb,hl,hm,U,J,_,_⟩
 ·exact ⟨none,0,0,rfl,Fy _,by decide,fun h=>by omega⟩
 ·refine ⟨some a,len,cap,rfl,hl,by unfold maxLen at hm;omega,fun E=>?_⟩
  have each:∀i,i<len->∃(cl:List Value) (y:DataW H×List MemPlace),w.cells? base (a.add (i*sz)) sz=some cl/\DataW.trod enc Tryz.prog w base (fun _=>true) held n e cl=some y:=fun i M=>by
   have h1:=J i M;rw [Q,Fw (by omega)] at h1;obtain ⟨cl,h2,h3⟩:=Option.bind_eq_some_iff.1 h1;exact ⟨cl,_,h2,h3⟩
  have O:a.spot=none:=by
   obtain ⟨cl,y,h2,_⟩:=each 0 E;obtain ⟨_,h4,G⟩:=World.cells?_some h2;have D:=G 0 h0;rw [Fw (by omega)] at D;have I:=spot_none D;rw [Nat.zero_mul] at I;unfold Addr.add at I
   rwa [if_pos rfl,if_pos rfl] at I
  refine ⟨a.block,a.off,?_,fun i M=>?_⟩
  ·obtain ⟨b,o,s⟩:=a;simp only at O;subst O;rfl
  ·obtain ⟨cl,y,h2,h3⟩:=each i M;obtain ⟨_,h4,G⟩:=World.cells?_some h2;refine ⟨cl,n,y,h4,fun j V=>?_,h3⟩;have D:=G j V;rw [addr_at O,addr_at rfl] at D;rw [<-Nat.add_assoc];exact D
theorem eachOpen {α:Type} {R:Value->α->Prop} {t e:TypeId} (ht:Tryz.prog.underlying t=some (.slice e)) (Q:Tryz.prog.cellsOf e=1)
  (V:∀n cl y,DataW.trod enc Tryz.prog w base (fun _=>true) held n e cl=some y->∃v a,cl=[v]/\R v a) (h:DataW.trod enc Tryz.prog w base (fun _=>true) held fuel t cs=some x):
  ∃v l,cs=[v]/\Each R w (fun _=>True) v l/\l.length<=9223372036854775807/\∀a∈l,∃u,R u a:=by
 obtain ⟨A,len,c,rfl,D,O,o⟩:=sliceOpen ht Q (by omega) h;rcases zav len with rfl | hpos
 ·exact ⟨_,[],rfl,⟨[],⟨A,c,rfl,D,Ba.nil _ _ _ _⟩,fun i y E=>by simp at E⟩,by simp,fun a G=>by cases G⟩
 ·obtain ⟨b,off,rfl,I⟩:=o hpos;clear o
  obtain ⟨l,M,hp⟩:=chooseList (β:=Value×α) (p:=fun i va=>w.cell? ⟨b,off+i,none⟩=some va.1/\R va.1 va.2) len (fun i J=>by
   obtain ⟨cl,n,y,h1,h2,h3⟩:=I i J;obtain ⟨v,a,rfl,hr⟩:=V n cl y h3;have:=h2 0 (by omega);rw [Nat.mul_one,Nat.add_zero] at this;exact ⟨(v,a),this,hr⟩)
  refine ⟨_,l.map (·.2),rfl,⟨l.map (·.1),⟨_,c,by rw [zau,M],by rw [zau,M];exact D,by simp,fun _=>⟨b,off,rfl,trivial,fun j u U=>?_⟩⟩,fun i y E=>?_⟩,by rw [zau,M];exact O,fun a G=>?_⟩
  ·rw [zat] at U;obtain ⟨va,h1,rfl⟩:=Option.map_eq_some_iff.1 U;exact (hp j va h1).1
  ·rw [zat] at E;obtain ⟨va,h1,rfl⟩:=Option.map_eq_some_iff.1 E;exact ⟨va.1,by rw [zat,h1];rfl,(hp i va h1).2⟩
  ·obtain ⟨va,h1,rfl⟩:=zaA.1 G;obtain ⟨i,J,rfl⟩:=zaq h1;exact ⟨_,(hp i _ (Fw J)).2⟩
theorem row_of_each {α:Type} {f:α->Value} {l:List α} (h:Each (fun u a=>u=f a) w (fun _=>True) v l):AS w (fun _=>True) 1 v l.length (l.map f):=by
 obtain ⟨vs,D,he⟩:=h
 have:vs=l.map f:=by
  have o:=D;obtain ⟨A,c,_,_,hA⟩:=o;have G:vs.length=l.length:=by have:=hA.1;omega
  refine List.ext_getElem? fun i=>?_
  rcases zah i l.length with hi | hi
  ·obtain ⟨u,E,D⟩:=he i _ (Fw hi);rw [E,zat,Fw hi,D];rfl
  ·rw [zae (by omega),zae (by simp;omega)]
 rw [<-this];exact D
theorem intsOpen (h:DataW.trod enc Tryz.prog w base (fun _=>true) held fuel 23 cs=some x):∃v l,cs=[v]/\zg w (fun _=>True) v l/\l.length<=9223372036854775807:=by
 obtain ⟨v,l,rfl,he,o,_⟩:=eachOpen (R:=fun u a=>u=Value.int .i64 a) Tryz.underlying23 (by kernel_rfl) (fun n cl y D=>by
  obtain ⟨k,rfl,_,_⟩:=DataW.trod_int Tryz.underlying3 D;exact ⟨_,k,rfl,rfl⟩) h
 exact ⟨v,l,rfl,row_of_each he,o⟩
theorem intssOpen (h:DataW.trod enc Tryz.prog w base (fun _=>true) held fuel 22 cs=some x):∃v l,cs=[v]/\zU w (fun _=>True) v l/\l.length<=9223372036854775807/\∀a∈l,a.length<=9223372036854775807:=by
 obtain ⟨v,l,rfl,he,I,D⟩:=eachOpen (R:=fun u a=>zg w (fun _=>True) u a/\a.length<=9223372036854775807) Tryz.underlying22 (by kernel_rfl) (fun n cl y E=>by
  obtain ⟨v,l,rfl,h1,h2⟩:=intsOpen E;exact ⟨v,l,rfl,h1,h2⟩) h
 obtain ⟨vs,J,o⟩:=he
 exact ⟨v,l,rfl,⟨vs,J,fun i y E=>by
  obtain ⟨u,h1,h2,_⟩:=o i y E;exact ⟨u,h1,h2⟩⟩,I,fun a G=>by obtain ⟨u,h⟩:=D a G;exact h.2⟩
theorem agg_of {l:List Value} (h:v.cells.toList=l) (h2:∃cs,v=.agg cs):v=.agg l.toArray:=by
 obtain ⟨cs,rfl⟩:=h2;subst h;rfl
end
end
section
open Go.ChangeShapes Go.WideShapes Go.ChangeAt Go.RowKit
attribute [local go_sem ↓] Go.wp_at_zero Go.wp_at_succ
theorem makeP_zero {m:MZ} (h:(zA m).1≠0):(zA m).2=.zero:=by
 unfold zA at h⊢
 split
 ·rename_i o
  rw [if_pos o] at h;exact Fg _ _ _ h
 ·rfl
end
section
open Go.RowKit
theorem makeP_size {m:MZ}:(zA m).2.size<=3000:=by
 by_cases h:(zA m).1=0
 ·unfold zA at h⊢;by_cases o:AV m=0
  ·rw [if_pos o] at h⊢;obtain ⟨-,h1,h2⟩:=proveP_ok o _ [] 0 .nil (by omega) h;show (zk m (m.n.toNat+2) [] 0).2.1.size<=3000;omega
  ·rw [if_neg o];show PT.zero.size<=3000;decide
 ·rw [makeP_zero h];decide
def nuB (b:UInt8):Prop:=b.toNat=45\/(48<=b.toNat/\b.toNat<=57)
theorem mem_dec (u:Nat):∀b∈Lib.decDigits u,nuB b:=by
 induction u using Nat.strongRecOn with
 | ind u ih=>
  intro b hb;by_cases o:u<10
  ·rw [Dm o] at hb;rw [zar.1 hb];have:=Ed o;exact .inr ⟨by omega,by omega⟩
  ·rw [dec_big o] at hb;rcases za0.1 hb with hb | hb
   ·exact ih (u / 10) (by omega) b hb
   ·rw [zar.1 hb];have:=Ed (Nat.mod_lt u (show 0<10 by decide));exact .inr ⟨by omega,by omega⟩
theorem mem_itoa (n:Int):∀b∈Lib.itoa n,nuB b:=by
 intro b hb;by_cases h:n<0
 ·rw [DW h] at hb;rcases zaz.1 hb with rfl | hb
  ·exact .inl rfl
  ·exact mem_dec _ b hb
 ·rw [CC (by omega)] at hb;exact mem_dec _ b hb
theorem itoa_ne (n:Int):Lib.itoa n≠[]:=by
 by_cases h:n<0
 ·rw [DW h];simp
 ·obtain ⟨k,-,l,o⟩:=dec_head n.toNat;rw [CC (by omega),o];simp
theorem wI_head (n:Int) (rest:List UInt8):∃b t,wI n++rest=b :: t/\nuB b:=by
 cases h:Lib.itoa n with
 | nil=>exact absurd h (itoa_ne n)
 | cons b t=>exact ⟨b,t++[59]++rest,by simp [wI,h],mem_itoa n b (by rw [h];exact zaw ..)⟩
theorem cutAt_app {c:UInt8}:∀{a:List UInt8} (rest:List UInt8),c∉a->Cw c (a++c :: rest)=some (a,rest)
 | [],rest,_=>by simp [Cw]
 | x :: a,rest,h=>by
  have o:(x==c)=false:=by
   rw [FM];exact fun e=>h (by rw [e];exact zaw ..)
  simp only [List.cons_append,Cw,o];rw [cutAt_app rest (fun hm=>h (zaf _ hm))];rfl
theorem numP_itoa {c:UInt8} (h:Cz n) (o:¬ nuB c) (rest:List UInt8):numP c (Lib.itoa n++c :: rest)=some (n,rest):=by
 rw [numP_ref,cutAt_app rest (fun hm=>o (mem_itoa n c hm)),Option.bind_some];simp only;rw [refNum_of h];rfl
theorem intF_wI (h:Cz n) (rest:List UInt8):Br (wI n++rest,false)=(n,(rest,false)):=by
 have e:wI n++rest=Lib.itoa n++59 :: rest:=by simp [wI]
 have o:=numP_itoa (c:=59) h (by unfold nuB;decide) rest;unfold Br Cc;simp only [e,o];rfl
theorem elsF_wI:∀(l:List Int) (rest:List UInt8) (acc:List Int) (f:Nat),(∀x∈l,Cz x)->(l.flatMap wI++93 :: rest).length<=f+1->Bk f (l.flatMap wI++93 :: rest,false) acc=(acc++l,(93 :: rest,false))
 | [],rest,acc,0,_,_=>by simp [Bk]
 | [],rest,acc,f+1,_,_=>by
  unfold Bk;rw [if_pos (.inr rfl)];simp
 | x :: l,rest,acc,f,D,hf=>by
  obtain ⟨b,t,o,G⟩:=wI_head x (l.flatMap wI++93 :: rest);have e:(x :: l).flatMap wI++93 :: rest=wI x++(l.flatMap wI++93 :: rest):=by simp
  have E:2<=(wI x).length:=by
   cases h:Lib.itoa x with
   | nil=>exact absurd h (itoa_ne x)
   | cons b t=>simp [wI,h]
  rw [e] at hf⊢;rw [FG] at hf;obtain ⟨f,rfl⟩:∃f',f=f'+1:=⟨f - 1,by simp at hf;omega⟩;unfold Bk
  rw [if_neg (by
   rintro (h | h)
   ·unfold AH at h;rw [o] at h;simp at h
   ·rw [o] at h;simp only [List.head?_cons,Option.some.injEq] at h;subst h
    revert G
    unfold nuB;decide),intF_wI (D x (zaw ..))]
  simp only;rw [elsF_wI l rest (acc++[x]) f (fun y I=>D y (zaf _ I)) (by omega)];simp
theorem intsF_wL {l:List Int} (h:∀x∈l,Cz x) (rest:List UInt8):AJ (wL l++rest,false)=(l,(rest,false)):=by
 have e:wL l++rest=91 :: (l.flatMap wI++93 :: rest):=by simp [wL]
 unfold AJ;rw [e]
 rw [if_neg (by
  rintro (h | h)
  ·simp [AH] at h
  ·simp at h)]
 simp only [List.tail_cons];rw [elsF_wI l rest [] _ h (Nat.le_succ _)];unfold intsE;rw [if_neg (by simp [AH])];simp
end
end Go.Proofs.YtjomnbdjajjgfaaGreatDoor
