import Derived.Test.YtjomnbdjajjgfaaGreatDoorWIw
set_option linter.unusedVariables false
set_option linter.unusedSimpArgs false
set_option maxRecDepth 100000
set_option maxHeartbeats 16000000
namespace Go.Proofs.YtjomnbdjajjgfaaGreatDoor
variable {x:JS} {ns:List ByteArray} {c n:Nat} {A:Option Addr} {v:Value} {W:World}
section
open Go.RowKit
attribute [local go_sem ↓] Go.wp_at_zero Go.wp_at_succ
structure QAt (w:World) (ok:Nat->Prop) (g:Nat) (m:MZ) (s:RS) (f u t vn:Value):Prop where
 blk:zl w g 190 #[.int .i64 m.w,.int .i64 m.h,.int .i64 m.l,f,u,t,vn,.bool s.done,.int .i64 s.steps,.bool true]
 maze:zY w ok (.agg #[.int .i64 m.w,.int .i64 m.h,.int .i64 m.l,f,u,t]) m
 now:zk w ok vn s.ch
 ng:¬ ok g
def QR2 (w:World) (ok:Nat->Prop) (g:Nat) (m:MZ) (s:RS):Prop:=∃f u t vn,QAt w ok g m s f u t vn
section
variable {w w':World} {ok ok':Nat->Prop} {g:Nat} {m:MZ} {s:RS} {f u t vn:Value}
theorem QAt.lt (h:QAt w ok g m s f u t vn):g<w.heap.size:=zc h.blk
theorem QAt.ext (h:QAt w ok g m s f u t vn) (d:za w w'):QAt w' ok g m s f u t vn:=⟨h.blk.ext d,h.maze.below d,h.now.below d,h.ng⟩
theorem QAt.keep (h:QAt w ok g m s f u t vn) (B:∀b,b<w.heap.size->b=g\/ok b->w'.heap[b]?=w.heap[b]?):QAt w' ok g m s f u t vn:=
 ⟨(B g h.lt (.inl rfl)).trans h.blk,h.maze.keep (fun b o d=>B b d (.inr o)),h.now.keep (fun b o d=>B b d (.inr o)),h.ng⟩
theorem QR2.keep (h:QR2 w ok g m s) (d:∀b,b<w.heap.size->b=g\/ok b->w'.heap[b]?=w.heap[b]?):QR2 w' ok g m s:=by
 obtain ⟨f,u,t,vn,h⟩:=h;exact ⟨f,u,t,vn,h.keep d⟩
theorem QR2.ext (h:QR2 w ok g m s) (d:za w w'):QR2 w' ok g m s:=by
 obtain ⟨f,u,t,vn,h⟩:=h;exact ⟨f,u,t,vn,h.ext d⟩
theorem QR2.weaken (h:QR2 w ok g m s) (d:∀b,ok b->ok' b) (o:¬ ok' g):QR2 w ok' g m s:=by
 obtain ⟨f,u,t,vn,h⟩:=h;exact ⟨f,u,t,vn,h.blk,h.maze.weaken d,h.now.weaken d,o⟩
theorem QR2.lt (h:QR2 w ok g m s):g<w.heap.size:=by
 obtain ⟨f,u,t,vn,h⟩:=h;exact h.lt
end
def CN (w:World) (ok okc:Nat->Prop) (m:MZ) (ch:List Int) (st:Int) (e:Ending) (w':World):Prop:=
 ∃v,e=.returned (.tuple #[v,.int .i64 (loadE m ch st)])/\za w w'/\
  ((loadE m ch st≠0/\v=.pointer none)\/(loadE m ch st=0/\AG m/\zK m ch/\∃g,v=ptrV g/\w.heap.size<=g/\QR2 w' (fun b=>(ok b\/w.heap.size<=b)/\b≠g) g m (loadS m ch st)))
theorem qLoad_calls {ok okc:Nat->Prop} {vc:Value} {m:MZ} {ch:List Int} (st:Int) (w:World) (hm:zY w ok v m) (hl:Lens m) (e6:zk w okc vc ch) (f7:ch.length<=20000000000000):
  Calls Tryz.prog 137 #[v,vc,.int .i64 st] w (CN w ok okc m ch st):=by
 have a8:=zh hm;obtain ⟨vfr,vup,vts,rfl,-,-,-⟩:=hm;have b0:=zh e6;obtain ⟨A,c,rfl,g1,-⟩:=e6;have HL:=zh hl;clear hl;obtain ⟨ck,e7⟩:=Fd (BM m);have a6:=zh e7;clear e7
 go_enter Tryz.func137,Tryz.ntmps137
 go_wp2_with fail
 generalize e2:w.alloc (.cells #[.int .i64 m.w,.int .i64 m.h,.int .i64 m.l,vfr,vup,vts] 32)=w1;have U:za w w1:=by rw [<-e2];exact (za.refl w).alloc _
 have e8:zl w1 w.heap.size 32 #[.int .i64 m.w,.int .i64 m.h,.int .i64 m.l,vfr,vup,vts]:=by rw [<-e2];exact EL _ _
 clear e2;obtain ⟨m0,m1,m2,m3,m4,m5⟩:=zt e8;have c0:=za.rule m0;have c1:=za.rule m1;have c2:=za.rule m2;have c3:=za.rule m3;have c4:=za.rule m4;have c5:=za.rule m5;clear m0 m1 m2 m3 m4 m5 e8;refine (Dx w1 (a8.out.below U) HL.out).mono ?_;rintro e w2 ⟨rfl,c8⟩;have c8:za w1 w2:=c8;have b3:za w w2:=U.trans c8;rw [<-a6.out];by_cases h0:ck=0
 case neg=>
  have e9:(ck==0)=false:=by rw [El];exact h0
  have O:(ck != 0)=true:=by rw [bne_iff_ne];exact h0
  have M:loadE m ch st=ck:=by unfold loadE;rw [<-a6.out,if_pos h0]
  have d:Hid (CN w ok okc m ch st (.returned (.tuple #[.pointer none,.int .i64 ck])) w2):=⟨_,by rw [M],b3,.inl ⟨by rw [M];exact h0,rfl⟩⟩;clear h0 M
  go_wp2_with fail
  go_ret2
  exact d.out
 case pos=>
  subst h0;have HG:=zh (AG.of a6.out.symm);by_cases a9:st<0
  ·have e9:decide (st<0)=true:=Eb a9;have M:loadE m ch st=1:=by unfold loadE;rw [<-a6.out,if_neg (by simp),if_pos a9]
   have d:Hid (CN w ok okc m ch st (.returned (.tuple #[.pointer none,.int .i64 1])) w2):=⟨_,by rw [M],b3,.inl ⟨by rw [M];decide,rfl⟩⟩;clear M
   go_wp2_with fail
   go_ret2
   exact d.out
  ·have e9:decide (st<0)=false:=Ec a9;have d5:Hid (loadE m ch st=if (isChB m ch && (decide (ch=[]) || Az m ch))=true then 0 else 51):=by show _=_;unfold loadE;rw [<-a6.out,if_neg (by simp),if_neg a9]
   have g0:=zh a9;clear a9;by_cases V:ch=[]
   ·have f6:ch.length=0:=by rw [V];rfl
    have O:decide ((0:Int)<(ch.length:Int))=false:=Ec (by omega);have a1:decide (0<ch.length)=false:=Ec (by omega);have b2:Hid (loadE m ch st=0):=by show _=_;rw [d5.out,V];rfl
    have a7:Hid (zK m ch):=by show zK _ _;rw [V];exact zK.nil
    have d6:Hid (decide (ch=[])=decide (ch.length=0)):=by show _=_;rw [V];rfl
    have e1:ch.length<=300:=by omega
    obtain ⟨wN,e3⟩:=Fd w2;have d4:za w1 wN:=by rw [e3];exact c8
    clear V f6;rw [<-e3];clear e3 b3 c8
    go_wp2_with fail
    go_upto_region 8 with fail;refine Eo (S:=(fun W=>za w1 W)) AI (d4.drew) fun zH=>?_;have J:za w1 wN.drew:=zH;have d9:za wN wN.drew:=(za.refl wN).drew;generalize wN.drew=wd at d9 zH J⊢;refine z6 0 zH ?_;refine z6 2 zH ?_;simp only [zd,DV];refine z6 4 zH ?_;simp only [zd,DV];refine AB 1 fun K D=>?_;go_simp;refine Fe D (zH.alloc _) fun zH=>?_;clear D K;try simp only [zd,DV]
    refine AB 3 fun K D=>?_;refine AM (ok:=okc) (by rfl) _ _ _ (by rfl) wd.heap.size [] ch _ _ (by rfl) (by rfl) (BX wd wd.heap.size (DY _)) (b0.out.below ((U.trans J).alloc _)) (by simp) (by simp;omega) ?_;intro vN w9 a0 b8 b5;have b1:Hid (za wd w9):=Ao ((za.refl wd).alloc (.cells #[] 3)) b8 (by simp) (fun k G=>AO (BX wd wd.heap.size (DY _)) G);rw [List.nil_append] at a0;have d7:=zh a0;obtain ⟨A9,n9,c9,rfl⟩:=Dw a0;clear a0 b8 b5;refine Fe D (J.trans b1.out) fun zH=>?_;clear D K;try simp only [zd,DV]
    refine AB 5 fun K D=>?_;go_simp;refine Fe D (zH) fun zH=>?_;clear D K;try simp only [zd,DV]
    refine AB 6 fun K D=>?_;go_simp;refine Fe D (zH.alloc _) fun zH=>?_;clear D K;try simp only [zd,DV]
    refine AB 7 fun K D=>?_;go_simp;refine Fe D (zH) fun zH=>?_;clear D K;try simp only [zd,DV]
    refine EC (by kernel_rfl) ?_ _
    go_wp2_with fail
    have o:za w w9:=U.trans (J.trans b1.out);have c6:=o.size;have a4:zl (w9.alloc (.cells #[.int .i64 m.w,.int .i64 m.h,.int .i64 m.l,vfr,vup,vts,.slice A9 n9 c9,.bool false,.int .i64 st,.bool true] 190)) w9.heap.size 190 #[.int .i64 m.w,.int .i64 m.h,.int .i64 m.l,vfr,vup,vts,.slice A9 n9 c9,.bool false,.int .i64 st,.bool true]:=zl.new _ _ _ rfl;have E:za w9 (w9.alloc (.cells #[.int .i64 m.w,.int .i64 m.h,.int .i64 m.l,vfr,vup,vts,.slice A9 n9 c9,.bool false,.int .i64 st,.bool true] 190)):=(za.refl w9).alloc _;generalize w9.alloc _=wX at a4 E zH⊢;refine (DF wX (a8.out.below (o.trans E)) HG.out HL.out (b0.out.below (o.trans E)) a7.out).mono ?_;rintro e wY ⟨rfl,a3⟩;have Q:zl wY w9.heap.size 190 #[.int .i64 m.w,.int .i64 m.h,.int .i64 m.l,vfr,vup,vts,.slice A9 n9 c9,.bool false,.int .i64 st,.bool true]:=a4.ext a3;have f4:wY.cell? ⟨w9.heap.size,7,none⟩=some (.bool false):=Q.cell (k:=7) rfl;have f5:wY.frozen? ⟨w9.heap.size,7,none⟩=false:=Q.frozen 7
    have d:Hid (∀b,b=(zV m ch || (decide (ch=[]) && decide (0<st)))->CN w ok okc m ch st (.returned (.tuple #[ptrV w9.heap.size,.int .i64 0])) (wY.setCell ⟨w9.heap.size,7,none⟩ (.bool b))):=fun b hb=>by
     have b4:za w wY:=o.trans (E.trans a3);have b9:Ar (fun b=>b≠w9.heap.size) wY (wY.setCell ⟨w9.heap.size,7,none⟩ (.bool b)):=fun k G _=>Eh wY ⟨w9.heap.size,7,none⟩ _ k G
     refine ⟨_,by rw [b2.out],b4.setCell (by show _<=w9.heap.size;omega) _,.inr ⟨b2.out,HG.out,a7.out,w9.heap.size,rfl,by omega,vfr,vup,vts,.slice A9 n9 c9,?_,?_,?_,fun h=>h.2 rfl⟩⟩
     ·have h1:=Q.set (k:=7) (.bool b);rw [hb] at h1⊢;exact h1
     ·have h1:=(a8.out.bound.below b4);exact (h1.weaken (ok':=fun b=>(ok b\/w.heap.size<=b)/\b≠w9.heap.size) (fun k G=>⟨.inl G.1,by have:=G.2;omega⟩)).keep (fun k G a5=>b9 k G.2 a5)
     ·have h1:zk w9 (fun k=>wd.heap.size<=k/\k<w9.heap.size) (.slice A9 n9 c9) ch:=(zk.bound (Bv.of_own d7.out));have h2:=J.size;have h3:=U.size;exact ((h1.below (E.trans a3)).weaken (ok':=fun b=>(ok b\/w.heap.size<=b)/\b≠w9.heap.size) (fun k G=>⟨.inr (by have:=G.1;omega),by have:=G.2;omega⟩)).keep (fun k G a5=>b9 k G.2 a5)
    clear a4 Q E zH a3 o c6;obtain ⟨cb,b6⟩:=Fd (zV m ch);rw [<-b6] at d⊢;clear b6;cases cb
    ·rw [d6.out] at d;by_cases I:ch.length=0
     ·rw [Eb I] at d;by_cases a2:0<st
      ·have B:=zh (d.out true (by rw [Eb a2];rfl));have e0:decide (0<st)=true:=Eb a2;have b7:((ch.length:Int)==0)=true:=by rw [beq_iff_eq];omega
       clear d I O a1
       go_wp2_with fail
       go_ret2
       exact B.out
      ·have B:=zh (d.out false (by rw [Ec a2];rfl));have e0:decide (0<st)=false:=Ec a2;have b7:((ch.length:Int)==0)=true:=by rw [beq_iff_eq];omega
       clear d I O a1
       go_wp2_with fail
       go_ret2
       exact B.out
     ·rw [Ec I] at d;have B:=zh (d.out false rfl);have b7:((ch.length:Int)==0)=false:=by rw [El];omega
      clear d I O a1
      go_wp2_with fail
      go_ret2
      exact B.out
    ·have B:=zh (d.out true rfl);clear d O a1
     go_wp2_with fail
     go_ret2
     exact B.out
   ·have f8:=List.length_pos_iff.2 V;have O:decide ((0:Int)<(ch.length:Int))=true:=Eb (by omega);have a1:decide (0<ch.length)=true:=Eb f8;have d6:Hid (decide (ch=[])=decide (ch.length=0)):=by show _=_;rw [Ec V,Ec (by omega)]
    have d8:Hid (openO m ch=(isChB m ch && Az m ch)):=by show _=_;unfold openO okC;rw [<-a6.out];rfl
    have e4:Hid (decide (ch=[])=false):=Ec V;clear V
    go_wp2_with fail
    refine (qOpen_calls w2 (a8.out.below b3) HL.out (b0.out.below b3) f7).mono ?_;rintro e wN ⟨rfl,f0⟩;have d4:za w1 wN:=za.trans ‹za w1 w2› f0;have f2:za w wN:=U.trans d4
    cases c7:openO m ch
    ·have M:loadE m ch st=51:=by
      rw [d5.out,e4.out,Bool.false_or,<-d8.out,c7];rfl
     have d:Hid (CN w ok okc m ch st (.returned (.tuple #[.pointer none,.int .i64 51])) wN):=⟨_,by rw [M],f2,.inl ⟨by rw [M];decide,rfl⟩⟩;clear M c7
     go_wp2_with fail
     go_ret2
     exact d.out
    ·have b2:Hid (loadE m ch st=0):=by
      show _=_;rw [d5.out,e4.out,Bool.false_or,<-d8.out,c7];rfl
     have a7:Hid (zK m ch):=by
      have h1:=d8.out;rw [c7,eq_comm,Ek] at h1;exact Bo.1 h1.1
     have e1:ch.length<=300:=a7.out.len300 HG.out;clear c7
     go_wp2_with fail
     refine Eo (S:=(fun W=>za w1 W)) AI (d4.drew) fun zH=>?_;have J:za w1 wN.drew:=zH;have d9:za wN wN.drew:=(za.refl wN).drew;generalize wN.drew=wd at d9 zH J⊢;refine z6 0 zH ?_;refine z6 2 zH ?_;simp only [zd,DV];refine z6 4 zH ?_;simp only [zd,DV];refine AB 1 fun K D=>?_;go_simp;refine Fe D (zH.alloc _) fun zH=>?_;clear D K;try simp only [zd,DV]
     refine AB 3 fun K D=>?_;refine AM (ok:=okc) (by rfl) _ _ _ (by rfl) wd.heap.size [] ch _ _ (by rfl) (by rfl) (BX wd wd.heap.size (DY _)) (b0.out.below ((U.trans J).alloc _)) (by simp) (by simp;omega) ?_;intro vN w9 a0 b8 b5;have b1:Hid (za wd w9):=Ao ((za.refl wd).alloc (.cells #[] 3)) b8 (by simp) (fun k G=>AO (BX wd wd.heap.size (DY _)) G);rw [List.nil_append] at a0;have d7:=zh a0;obtain ⟨A9,n9,c9,rfl⟩:=Dw a0;clear a0 b8 b5;refine Fe D (J.trans b1.out) fun zH=>?_;clear D K;try simp only [zd,DV]
     refine AB 5 fun K D=>?_;go_simp;refine Fe D (zH) fun zH=>?_;clear D K;try simp only [zd,DV]
     refine AB 6 fun K D=>?_;go_simp;refine Fe D (zH.alloc _) fun zH=>?_;clear D K;try simp only [zd,DV]
     refine AB 7 fun K D=>?_;go_simp;refine Fe D (zH) fun zH=>?_;clear D K;try simp only [zd,DV]
     refine EC (by kernel_rfl) ?_ _
     go_wp2_with fail
     have o:za w w9:=U.trans (J.trans b1.out);have c6:=o.size;have a4:zl (w9.alloc (.cells #[.int .i64 m.w,.int .i64 m.h,.int .i64 m.l,vfr,vup,vts,.slice A9 n9 c9,.bool false,.int .i64 st,.bool true] 190)) w9.heap.size 190 #[.int .i64 m.w,.int .i64 m.h,.int .i64 m.l,vfr,vup,vts,.slice A9 n9 c9,.bool false,.int .i64 st,.bool true]:=zl.new _ _ _ rfl;have E:za w9 (w9.alloc (.cells #[.int .i64 m.w,.int .i64 m.h,.int .i64 m.l,vfr,vup,vts,.slice A9 n9 c9,.bool false,.int .i64 st,.bool true] 190)):=(za.refl w9).alloc _;generalize w9.alloc _=wX at a4 E zH⊢;refine (DF wX (a8.out.below (o.trans E)) HG.out HL.out (b0.out.below (o.trans E)) a7.out).mono ?_;rintro e wY ⟨rfl,a3⟩;have Q:zl wY w9.heap.size 190 #[.int .i64 m.w,.int .i64 m.h,.int .i64 m.l,vfr,vup,vts,.slice A9 n9 c9,.bool false,.int .i64 st,.bool true]:=a4.ext a3;have f4:wY.cell? ⟨w9.heap.size,7,none⟩=some (.bool false):=Q.cell (k:=7) rfl;have f5:wY.frozen? ⟨w9.heap.size,7,none⟩=false:=Q.frozen 7
     have d:Hid (∀b,b=(zV m ch || (decide (ch=[]) && decide (0<st)))->CN w ok okc m ch st (.returned (.tuple #[ptrV w9.heap.size,.int .i64 0])) (wY.setCell ⟨w9.heap.size,7,none⟩ (.bool b))):=fun b hb=>by
      have b4:za w wY:=o.trans (E.trans a3);have b9:Ar (fun b=>b≠w9.heap.size) wY (wY.setCell ⟨w9.heap.size,7,none⟩ (.bool b)):=fun k G _=>Eh wY ⟨w9.heap.size,7,none⟩ _ k G
      refine ⟨_,by rw [b2.out],b4.setCell (by show _<=w9.heap.size;omega) _,.inr ⟨b2.out,HG.out,a7.out,w9.heap.size,rfl,by omega,vfr,vup,vts,.slice A9 n9 c9,?_,?_,?_,fun h=>h.2 rfl⟩⟩
      ·have h1:=Q.set (k:=7) (.bool b);rw [hb] at h1⊢;exact h1
      ·have h1:=(a8.out.bound.below b4);exact (h1.weaken (ok':=fun b=>(ok b\/w.heap.size<=b)/\b≠w9.heap.size) (fun k G=>⟨.inl G.1,by have:=G.2;omega⟩)).keep (fun k G a5=>b9 k G.2 a5)
      ·have h1:zk w9 (fun k=>wd.heap.size<=k/\k<w9.heap.size) (.slice A9 n9 c9) ch:=(zk.bound (Bv.of_own d7.out));have h2:=J.size;have h3:=U.size;exact ((h1.below (E.trans a3)).weaken (ok':=fun b=>(ok b\/w.heap.size<=b)/\b≠w9.heap.size) (fun k G=>⟨.inr (by have:=G.1;omega),by have:=G.2;omega⟩)).keep (fun k G a5=>b9 k G.2 a5)
     clear a4 Q E zH a3 o c6;obtain ⟨cb,b6⟩:=Fd (zV m ch);rw [<-b6] at d⊢;clear b6;cases cb
     ·rw [d6.out] at d;by_cases I:ch.length=0
      ·rw [Eb I] at d;by_cases a2:0<st
       ·have B:=zh (d.out true (by rw [Eb a2];rfl));have e0:decide (0<st)=true:=Eb a2;have b7:((ch.length:Int)==0)=true:=by rw [beq_iff_eq];omega
        clear d I O a1
        go_wp2_with fail
        go_ret2
        exact B.out
       ·have B:=zh (d.out false (by rw [Ec a2];rfl));have e0:decide (0<st)=false:=Ec a2;have b7:((ch.length:Int)==0)=true:=by rw [beq_iff_eq];omega
        clear d I O a1
        go_wp2_with fail
        go_ret2
        exact B.out
      ·rw [Ec I] at d;have B:=zh (d.out false rfl);have b7:((ch.length:Int)==0)=false:=by rw [El];omega
       clear d I O a1
       go_wp2_with fail
       go_ret2
       exact B.out
     ·have B:=zh (d.out true rfl);clear d O a1
      go_wp2_with fail
      go_ret2
      exact B.out
end
section
open Go.RowKit Go.Shelf
attribute [local go_sem ↓] Go.wp_at_zero Go.wp_at_succ
attribute [local go_sem] Oper.semAt_some
def rdC (s:List UInt8) (x:JS):List Int:=(zZ ((Bn (s.drop x.fin,false)).1,false)).1
def rdK (s:List UInt8) (x:JS):Int×Rd:=AS (zZ ((Bn (s.drop x.fin,false)).1,false)).2
theorem nextJ_n1 {m:MZ} {s:List UInt8} (h:(rdK s x).2.2=true\/(rdK s x).1<=x.steps):zO m s x=none:=by
 unfold zO;exact if_pos (.inr h)
theorem nextJ_n2 {m:MZ} {s:List UInt8} (h:loadE m (rdC s x) (rdK s x).1≠0):zO m s x=none:=by
 unfold zO;simp only
 split
 ·rfl
 split
 ·rfl
 exact if_pos h
theorem nextJ_n3 {m:MZ} {s:List UInt8} (h:¬ zS x.sg (rdC s x) (rdK s x).1 <+: s.drop x.fin):zO m s x=none:=by
 unfold zO;simp only
 split
 ·rfl
 exact if_pos h
theorem rdC_len (s:List UInt8) (x:JS):(rdC s x).length<=s.length:=by
 have h1:=intsF_cl ((Bn (s.drop x.fin,false)).1,false);have h2:=(textF_len (s.drop x.fin,false)).1;have h3:(s.drop x.fin).length<=s.length:=by rw [EX];omega
 unfold rdC;dsimp only at h1 h2;omega
theorem rdC_ok (s:List UInt8) (x:JS):∀n∈rdC s x,BI n:=(intsF_lv _).2
theorem rd_body {s:List UInt8} (h:s.length<=40000000):(Bf (rdC s x) (rdK s x).1).length<=900000000:=by
 have h1:=wIs_len2 (l:=rdC s x) (rdC_ok s x);have h2:=Bl (n:=(rdK s x).1) (Cp _);have h3:=rdC_len s x;unfold Bf;rw [Eg];omega
theorem nextJ_y {m:MZ} {s:List UInt8} (d:s.length<=40000000) (h:zS x.sg (rdC s x) (rdK s x).1 <+: s.drop x.fin) (h1:x.steps<(rdK s x).1) (h2:loadE m (rdC s x) (rdK s x).1=0):
  zO m s x=some ⟨rdC s x,(rdK s x).1,x.fin+(zS x.sg (rdC s x) (rdK s x).1).length,zJ x.sg (rdC s x) (rdK s x).1⟩:=
 nextJ_rec ⟨rdC_ok s x,Cp _,by have:=rd_body (x:=x) d;omega⟩ h h1 h2
theorem ext_chg {a b c:World} {r:Nat} (h:za a b) (d:zC (·=r) b c) (o:a.heap.size<=r):za a c:=Below.trans h (d.below (Below.size h) (fun k e=>by subst e;exact o))
def JBox (W:World) (g:Nat) (A:Option Addr) (n c:Nat) (x:JS):Prop:=zl W g 146 #[.slice A n c,.int .i64 x.steps,.string ⟨x.sg.toArray⟩,.int .i64 x.fin]
theorem jbox_cells {g:Nat} (h:JBox W g A n c x):W.cell? ⟨g,0,none⟩=some (.slice A n c)/\W.cell? ⟨g,1,none⟩=some (.int .i64 x.steps)/\W.cell? ⟨g,2,none⟩=some (.string ⟨x.sg.toArray⟩)/\W.cell? ⟨g,3,none⟩=some (.int .i64 x.fin):=
 ⟨h.cell (k:=0) rfl,h.cell (k:=1) rfl,h.cell (k:=2) rfl,h.cell (k:=3) rfl⟩
def jSize (g L:Nat) (w:World):Nat:=match w.cell? ⟨g,3,none⟩ with
 | some (.int _ p)=>L - p.toNat
 | _=>0
theorem jSize_of {g L:Nat} (h:JBox W g A n c x):jSize g L W=L - x.fin:=by
 unfold jSize;rw [(jbox_cells h).2.2.2];simp
def QOpenPost (w:World) (y:JS) (e:Ending) (w':World):Prop:=∃A n c,e=.returned (.tuple #[.agg #[.slice A n c,.int .i64 y.steps,.string ⟨y.sg.toArray⟩,.int .i64 y.fin],.int .i64 0])/\za w w'
theorem qo_fin {w:World} {g4:Nat} {a:Act} {b0 b1 b2 b3:Value} (I:zl W g4 146 #[b0,b1,b2,b3]) (B:w.heap.size<=g4) (G:za w W)
  (D:a.tmps[4]?=some (.pointer (some ⟨g4,0,none⟩))) (E:a.tmps[5]?=some (.int .i64 0)) (J:a.defers=[]):
  bodyPost Tryz.prog Tryz.f87 (QOpenPost w x) Exit.ret a ((((W.setCell ⟨g4,0,none⟩ (.slice A n c)).setCell ⟨g4,1,none⟩ (.int .i64 x.steps)).setCell ⟨g4,2,none⟩ (.string ⟨x.sg.toArray⟩)).setCell ⟨g4,3,none⟩ (.int .i64 x.fin)):=by
 have d:=(((I.set (k:=0) (.slice A n c)).set (k:=1) (.int .i64 x.steps)).set (k:=2) (.string ⟨x.sg.toArray⟩)).set (k:=3) (.int .i64 x.fin);have o:za w ((((W.setCell ⟨g4,0,none⟩ (.slice A n c)).setCell ⟨g4,1,none⟩ (.int .i64 x.steps)).setCell ⟨g4,2,none⟩ (.string ⟨x.sg.toArray⟩)).setCell ⟨g4,3,none⟩ (.int .i64 x.fin)):=(((G.setCell (p:=⟨g4,0,none⟩) B _).setCell (p:=⟨g4,1,none⟩) B _).setCell (p:=⟨g4,2,none⟩) B _).setCell (p:=⟨g4,3,none⟩) B _;generalize (((W.setCell ⟨g4,0,none⟩ (.slice A n c)).setCell ⟨g4,1,none⟩ (.int .i64 x.steps)).setCell ⟨g4,2,none⟩ (.string ⟨x.sg.toArray⟩)).setCell ⟨g4,3,none⟩ (.int .i64 x.fin)=WZ at d o⊢;have c0:WZ.cell? ⟨g4,0,none⟩=some (.slice A n c):=d.cell (k:=0) rfl;have c1:WZ.cell? ⟨g4,1,none⟩=some (.int .i64 x.steps):=d.cell (k:=1) rfl;have c2:WZ.cell? ⟨g4,2,none⟩=some (.string ⟨x.sg.toArray⟩):=d.cell (k:=2) rfl;have c3:WZ.cell? ⟨g4,3,none⟩=some (.int .i64 x.fin):=d.cell (k:=3) rfl;have e4:a.tmps.getD 4 undef=.pointer (some ⟨g4,0,none⟩):=by rw [Array.getD_eq_getD_getElem?,D];rfl
 have e5:a.tmps.getD 5 undef=.int .i64 0:=by rw [Array.getD_eq_getD_getElem?,E];rfl
 exact ER (v:=.tuple #[.agg #[.slice A n c,.int .i64 x.steps,.string ⟨x.sg.toArray⟩,.int .i64 x.fin],.int .i64 0]) (by simp [results,Tryz.results87,go_sem,D,E,e4,e5,c0,c1,c2,c3]) J ⟨_,_,_,rfl,o⟩
theorem mOpen_calls {ok:Nat->Prop} {m:MZ} {s:List UInt8} (w:World) (hm:Bt w ok v m ns) (hs:CF m ns) (hl:Lens m) (hc:BM m=0) (a2:s.length<=40000000) (hp:zr (BT (zw m ns)) <+: s):
  Calls Tryz.prog 87 #[v,.string ⟨s.toArray⟩] w (QOpenPost w (endJ m s ⟨[],0,(zr (BT (zw m ns))).length,BT (zw m ns)⟩)):=by
 have HM:=zh hm;have HL:=zh hl;have p4:=descB_len hs;obtain ⟨f,u,t,rfl,⟨_,⟨Af,cf,rfl,-,-⟩,-⟩,⟨Au,cu,rfl,-,-⟩,⟨-,_,⟨At,ct,rfl,-,-⟩,-⟩⟩:=hm;obtain ⟨id,hid⟩:∃x,x=BT (zw m ns):=⟨_,rfl⟩;obtain ⟨D,hD⟩:=Fd (zw m ns);rw [<-hid] at hp⊢;have f1:id.length=8:=by rw [hid];exact AN _
 obtain ⟨hd,h8⟩:∃h,h=zr id:=⟨_,rfl⟩;rw [<-h8] at hp⊢;have i8:Hid (∀W,za w W->Calls Tryz.prog 60 #[.agg #[.int .i64 m.w,.int .i64 m.h,.int .i64 m.l,.slice Af m.free.length cf,.slice Au m.up.length cu,.slice At m.tasks.length ct]] W fun e w'=>e=.returned (.int .i64 0)/\za W w'):=fun W hW=>by have h:=Dx W (HM.out.maze.below hW) HL.out;rw [hc] at h;exact h
 have HH:Hid (∀W,za w W->Calls Tryz.prog 77 #[.agg #[.int .i64 m.w,.int .i64 m.h,.int .i64 m.l,.slice Af m.free.length cf,.slice Au m.up.length cu,.slice At m.tasks.length ct]] W fun e w'=>e=.returned (.string ⟨hd.toArray⟩)/\za W w'):=fun W hW=>by rw [h8,hid];exact mHeader_calls W (HM.out.below hW) hs
 have j4:Hid (∀W,za w W->Calls Tryz.prog 143 #[.agg #[.int .i64 m.w,.int .i64 m.h,.int .i64 m.l,.slice Af m.free.length cf,.slice Au m.up.length cu,.slice At m.tasks.length ct]] W fun e w'=>e=.returned (.string ⟨D.toArray⟩)/\za W w'):=fun W hW=>by rw [hD];exact mDesc_calls W (HM.out.below hW) hs
 have k5:Hid (∀W,Calls Tryz.prog 68 #[.string ⟨D.toArray⟩] W fun e w'=>e=.returned (.string ⟨id.toArray⟩)/\za W w'):=fun W=>by rw [hid,<-hD];exact mOf_l _ W (by rw [hD];omega)
 have c8:=zh a2;have j6:=zh f1;have m4:=hp.length_le;obtain ⟨rest,b9⟩:=hp;have e1:ByteArray.extract ⟨s.toArray⟩ 0 hd.length=⟨hd.toArray⟩:=by rw [Dt s 0 hd.length (by omega),<-b9];simp
 clear hs hl hc hD h8 hid f1 p4 b9 a2
 go_enter Tryz.func87,Tryz.ntmps87
 go_upto_region 1 with fail;have d5:=zl.new w #[.int .i64 m.w,.int .i64 m.h,.int .i64 m.l,.slice Af m.free.length cf,.slice Au m.up.length cu,.slice At m.tasks.length ct] 32 (g:=w.heap.size) rfl;have g9:za w (w.alloc (.cells #[.int .i64 m.w,.int .i64 m.h,.int .i64 m.l,.slice Af m.free.length cf,.slice Au m.up.length cu,.slice At m.tasks.length ct] 32)):=(za.refl w).alloc _;have e4:(w.alloc (.cells #[.int .i64 m.w,.int .i64 m.h,.int .i64 m.l,.slice Af m.free.length cf,.slice Au m.up.length cu,.slice At m.tasks.length ct] 32)).heap.size=w.heap.size+1:=by simp
 generalize w.alloc _=w1 at d5 g9 e4⊢;have I:=zl.new w1 #[.slice none 0 0,.int .i64 0,.string ⟨#[]⟩,.int .i64 0] 146 (g:=w1.heap.size) rfl;have d6:za w1 (w1.alloc (.cells #[.slice none 0 0,.int .i64 0,.string ⟨#[]⟩,.int .i64 0] 146)):=(za.refl w1).alloc _;have i4:(w1.alloc (.cells #[.slice none 0 0,.int .i64 0,.string ⟨#[]⟩,.int .i64 0] 146)).heap.size=w.heap.size+2:=by simp [e4]
 generalize w1.alloc _=w2 at I d6 i4⊢;rw [e4] at I;obtain ⟨gm,h7⟩:∃g,g=w.heap.size:=⟨_,rfl⟩;obtain ⟨g4,h5⟩:∃g,g=w.heap.size+1:=⟨_,rfl⟩;rw [<-h5] at I⊢;rw [<-h7] at d5⊢;have HG:Hid (gm=w.heap.size/\g4=w.heap.size+1/\w2.heap.size=w.heap.size+2):=⟨h7,h5,i4⟩;have i7:=zh (d5.ext d6);have n5:=zh I;have c9:Hid (za w w2):=g9.trans d6;obtain ⟨r0,r1,r2,r3,r4,r5⟩:=zt i7.out;have r0:=za.rule r0;have r1:=za.rule r1;have r2:=za.rule r2;have r3:=za.rule r3;have r4:=za.rule r4;have r5:=za.rule r5;have p8:za w2 w2:=za.refl w2;clear d5 g9 e4 I d6 i4 h7 h5
 go_wp2_with fail
 refine (i8.out _ c9.out).mono ?_;rintro e w3 ⟨rfl,l5⟩;have i0:za w2 w3:=l5;clear l5 i8 p8
 go_wp2_with fail
 refine (HH.out _ (c9.out.trans i0)).mono ?_;rintro e w4 ⟨rfl,l6⟩;have i1:za w2 w4:=i0.trans l6;clear l6 HH i0
 go_wp2_with fail
 refine (j4.out _ (c9.out.trans i1)).mono ?_;rintro e w5 ⟨rfl,l7⟩;have m7:za w2 w5:=i1.trans l7;clear l7 j4 i1
 go_wp2_with fail
 refine (k5.out _).mono ?_;rintro e w6 ⟨rfl,l8⟩;have i2:za w2 w6:=m7.trans l8;clear l8 k5 m7 e1
 go_wp2_with fail
 have M:JBox (w6.alloc (.cells #[.slice none 0 0,.int .i64 0,.string ⟨id.toArray⟩,.int .i64 hd.length] 146)) w6.heap.size none 0 0 ⟨[],0,hd.length,id⟩:=zl.new w6 #[.slice none 0 0,.int .i64 0,.string ⟨id.toArray⟩,.int .i64 hd.length] 146 rfl;have a1:za w6 (w6.alloc (.cells #[.slice none 0 0,.int .i64 0,.string ⟨id.toArray⟩,.int .i64 hd.length] 146)):=(za.refl w6).alloc _;generalize w6.alloc _=w7 at M a1⊢;obtain ⟨g8,h6⟩:∃g,g=w6.heap.size:=⟨_,rfl⟩;rw [<-h6] at M⊢;have c6:Hid (w2.heap.size<=g8):=by (show _<=_);rw [h6];exact i2.size
 have l2:Hid (za w2 w7):=i2.trans a1;have c0:=zh M;clear M a1 h6 i2 r0 r1 r2 r3 r4 r5;obtain ⟨Y,hY⟩:=Fd (endJ m s ⟨[],0,hd.length,id⟩);rw [<-hY];have HY:=zh hY.symm;have k6:=zh m4;clear hY m4;go_loopw [6] (fun i wr=>i=.int .i64 0/\∃A n c x,Hid (JBox wr g8 A n c x)/\Hid (endJ m s x=Y)/\Hid (x.fin<=s.length)/\Hid (BI x.steps)/\Hid (x.sg.length=8)/\Hid (za w2 wr)) (fun _ wr=>jSize g8 s.length wr)
 case atStart=>exact ⟨rfl,_,_,_,_,c0,HY,k6,⟨by show (-9223372036854775808:Int)<=0;decide,by show (0:Int)<=_;decide⟩,j6,l2⟩
 clear c0 HY k6 l2 j6
 case round=>
  obtain ⟨rfl,A,n,c,x,HB,HY,HF,HK,o3,HX⟩:=hrel;obtain ⟨wk,rfl⟩:∃wk:World,wk=wr:=⟨_,rfl⟩;obtain ⟨r0,r1,r2,r3,r4,r5⟩:=zt (i7.out.ext HX.out);have r0:=za.rule r0;have r1:=za.rule r1;have r2:=za.rule r2;have r3:=za.rule r3;have r4:=za.rule r4;have r5:=za.rule r5;obtain ⟨j0,j1,j2,j3⟩:=jbox_cells HB.out;have j0:=za.rule j0;have j1:=za.rule j1;have j2:=za.rule j2;have j3:=za.rule j3;have hx:za wk wk:=za.refl wk;obtain ⟨T,hT⟩:=Fd (s.drop x.fin);have s4:=HF.out;have o6:T.length<=40000000:=by rw [hT,EX];have:=c8.out;omega
  have e0:ByteArray.extract ⟨s.toArray⟩ x.fin s.length=⟨T.toArray⟩:=by rw [Dt s x.fin s.length (by omega),hT,List.take_of_length_le (by simp)]
  obtain ⟨b,hb⟩:=Fd ((Bn (T,false)).1);have o9:b.length<=40000000:=by have:=(textF_len (T,false)).1;rw [hb];dsimp only at this;omega
  obtain ⟨CH,b2⟩:∃c,c=(zZ (b,false)).1:=⟨_,rfl⟩;obtain ⟨K,hK⟩:∃k,k=AS (zZ (b,false)).2:=⟨_,rfl⟩;have O:rdC s x=CH:=by rw [b2,hb,hT];rfl
  have B:rdK s x=K:=by rw [hK,hb,hT];rfl
  have m1:CH.length<=40000000:=by have:=intsF_cl (b,false);rw [b2];dsimp only at this;omega
  have m2:∀n∈CH,BI n:=by rw [b2];exact (intsF_lv _).2
  have e3:BI K.1:=by rw [hK];exact Cp _
  obtain ⟨k,hk⟩:=Fd K.1;obtain ⟨bd,h4⟩:∃b,b=K.2.2:=⟨_,rfl⟩;have e3:BI k:=by rw [hk];exact e3
  have g5:Hid (bd=true\/k<=x.steps->zO m s x=none):=fun h=>nextJ_n1 (by rw [B,<-hk,<-h4];exact h)
  have a5:Hid (loadE m CH k≠0->zO m s x=none):=fun h=>nextJ_n2 (by rw [O,B,<-hk];exact h)
  have J:Hid (¬ zS x.sg CH k <+: s.drop x.fin->zO m s x=none):=fun h=>nextJ_n3 (by rw [O,B,<-hk];exact h)
  have Q:Hid (zS x.sg CH k <+: s.drop x.fin->x.steps<k->loadE m CH k=0->zO m s x=some ⟨CH,k,x.fin+(zS x.sg CH k).length,zJ x.sg CH k⟩):=fun h h1 h2=>by
   have:=nextJ_y (m:=m) (s:=s) (x:=x) c8.out (by rw [O,B,<-hk];exact h) (by rw [B,<-hk];exact h1) (by rw [O,B,<-hk];exact h2);rw [O,B,<-hk] at this;exact this
  have m0:(zS x.sg CH k).length<=1000000000:=by
   have h1:=rd_body (s:=s) (x:=x) c8.out;rw [O,B,<-hk] at h1;have h2:=Br (s:=Bf CH k) (by omega);have h3:=Br (s:=zJ x.sg CH k) (by rw [Bb];omega);rw [Bb] at h3;unfold zS;rw [Eg];omega
  have l0:=zh m0;have n7:=zh m2;have j9:=zh e3;have r8:=zh O;have s1:=zh B;have i9:=zh m1;have s0:=zh hT;have k4:=zh (mNew_calls T wk);have l1:Hid (∀W,Bq W wk.heap.size T (T,false)->Calls Tryz.prog 157 #[.pointer (some ⟨wk.heap.size,0,none⟩)] W fun e w'=>e=.returned (.string ⟨b.toArray⟩)/\zC (·=wk.heap.size) W w'):=fun W h=>(mRText_calls W h (by omega)).mono fun e w' q=>⟨by rw [hb];exact q.1,q.2.1⟩
  have j8:Hid (∀W g,Bq W g b (b,false)->Calls Tryz.prog 158 #[.pointer (some ⟨g,0,none⟩)] W fun e w'=>∃v,e=.returned v/\zC (·=g) W w'/\Bq w' g b (zZ (b,false)).2/\zL w' W.heap.size v CH):=fun W g h=>by rw [b2];exact mRInts_calls W h (by omega) (by dsimp only;omega)
  have j7:Hid (∀W g,Bq W g b (zZ (b,false)).2->Calls Tryz.prog 159 #[.pointer (some ⟨g,0,none⟩)] W fun e w'=>e=.returned (.int .i64 k)/\zC (·=g) W w'/\Bq w' g b K.2):=fun W g h=>by rw [hk,hK];exact mRInt_calls W h (by omega)
  have n6:Hid (∀W g,Bq W g b K.2->Calls Tryz.prog 160 #[.pointer (some ⟨g,0,none⟩)] W fun e w'=>e=.returned (.bool bd)/\W=w'):=fun W g h=>by rw [h4];exact mBad_calls W h
  clear hT o6 hb o9 b2 hK O B m1 m2 e3 hk h4 m0
  go_wp2_with fail
  refine k4.out.mono ?_;rintro e w8 ⟨rfl,a1,m5⟩;have m8:za wk w8:=a1;have k7:=zh m5;clear a1 m5 k4 hx e0
  go_wp2_with fail
  refine (l1.out _ k7.out).mono ?_;rintro e w9 ⟨rfl,l4⟩;have i3:za wk w9:=ext_chg m8 l4 (DY _);clear l4 k7 l1 m8
  go_wp2_with fail
  refine (mNew_calls b w9).mono ?_;rintro e w10 ⟨rfl,e9,b8⟩;have f6:za wk w10:=i3.trans e9;have a7:=zh b8;have HR:Hid (wk.heap.size<=w9.heap.size):=i3.size;have j5:Hid (w9.heap.size<w10.heap.size):=by obtain ⟨cs,hb⟩:=b8.blk;exact zc hb
  generalize w9.heap.size=gr at a7 HR j5⊢;clear e9 b8 i3
  go_wp2_with fail
  refine (j8.out _ _ a7.out).mono ?_;rintro e w11 ⟨v,rfl,e8,f3,b7⟩;have f7:za wk w11:=ext_chg f6 e8 HR.out;have e6:=zh f3;obtain ⟨Av,cv,rfl,-⟩:=AL b7;have a6:Hid (zk w11 (fun b=>w10.heap.size<=b) (.slice Av CH.length cv) CH):=Bv.of_own b7;clear e8 f3 b7 a7 j8 f6;obtain ⟨nv,h9⟩:∃n,n=CH.length:=⟨_,rfl⟩;rw [<-h9] at a6⊢;have s2:=zh h9;clear h9
  go_wp2_with fail
  refine (j7.out _ _ e6.out).mono ?_;rintro e w12 ⟨rfl,b1,f5⟩;have V:za wk w12:=ext_chg f7 b1 HR.out;have e7:=zh f5;have e5:Hid (∀W,za w12 W->zk W (fun k=>True) (.slice Av nv cv) CH):=fun W hW=>((a6.out.keep (b1.same fun b hb e=>by have:=j5.out;omega)).weaken fun _ _=>trivial).below hW
  clear b1 f5 e6 j7 f7 a6
  go_wp2_with fail
  refine (n6.out _ _ e7.out).mono ?_;rintro e w13 ⟨rfl,rfl⟩;have f9:za wk w12:=V;have q7:=zh V;have a8:Hid (za w2 w12):=HX.out.trans V;have I:=n5.out.ext a8.out;have f4:∀j,w12.frozen? ⟨g4,j,none⟩=false:=fun j=>I.frozen j
  have o:=zh (I);clear e7 V I;obtain ⟨z0,z1,z2,z3⟩:w12.cell? ⟨g4,0,none⟩=some (.slice none 0 0)/\w12.cell? ⟨g4,1,none⟩=some (.int .i64 0)/\w12.cell? ⟨g4,2,none⟩=some (.string ⟨#[]⟩)/\w12.cell? ⟨g4,3,none⟩=some (.int .i64 0):=⟨o.out.cell (k:=0) rfl,o.out.cell (k:=1) rfl,o.out.cell (k:=2) rfl,o.out.cell (k:=3) rfl⟩;have a4:Hid (w.heap.size<=g4):=by have:=HG.out;(show _<=_);omega
  have d4:Hid (za w w12):=c9.out.trans a8.out;by_cases G:bd=true\/k<=x.steps
  ·have U:x=Y:=by rw [<-HY.out,Co (g5.out G)]
   subst U;clear HY g5 a5 J Q
   cases bd with
   | true=>
    clear G
    go_wp2_with fail
    exact qo_fin o.out a4.out d4.out rfl rfl rfl
   | false=>
    have m3:k<=x.steps:=by simpa using G
    clear G
    go_wp2_with fail
    exact qo_fin o.out a4.out d4.out rfl rfl rfl
  ·obtain ⟨o8,m3⟩:bd=false/\¬ k<=x.steps:=by simpa using G
   subst o8;have n8:Hid (x.steps<k):=by (show _<_);omega
   clear G g5 z0 z1 z2 z3 f4;obtain ⟨RB,d7⟩:∃r,r=zS x.sg CH k:=⟨_,rfl⟩;obtain ⟨SB',d8⟩:∃r,r=zJ x.sg CH k:=⟨_,rfl⟩;have k9:Hid (∀W,za w12 W->Calls Tryz.prog 138 #[.string ⟨x.sg.toArray⟩,.slice Av nv cv,.int .i64 k] W fun e w'=>e=.returned (.tuple #[.string ⟨RB.toArray⟩,.string ⟨SB'.toArray⟩])/\za W w'):=fun W hW=>by rw [d7,d8];exact mRecord_calls W (e5.out W hW) n7.out j9.out i9.out (by have:=o3.out;omega)
   rw [<-d7] at l0 J Q;rw [<-d8] at Q;have o2:=zh d8;have o1:Hid (2<=RB.length):=by rw [d7];exact recB_two _ _ _
   clear d7 d8
   go_wp2_with fail
   have hx:za w12 w12:=za.refl w12;refine (k9.out _ hx).mono ?_;rintro e w13 ⟨rfl,b3⟩;have g0:za wk w13:=f9.trans b3;have a9:=zh b3;clear b3 hx k9 f9
   have g3:Hid (Calls Tryz.prog 137 #[.agg #[.int .i64 m.w,.int .i64 m.h,.int .i64 m.l,.slice Af m.free.length cf,.slice Au m.up.length cu,.slice At m.tasks.length ct],.slice Av nv cv,.int .i64 k] w13 fun e w'=>∃v,e=.returned (.tuple #[v,.int .i64 (loadE m CH k)])/\za w13 w'):=
    (qLoad_calls k w13 (HM.out.maze.below (d4.out.trans a9.out)) HL.out (e5.out _ a9.out) (by have:=i9.out;omega)).mono fun e w' q=>by obtain ⟨v,h1,h2,-⟩:=q;exact ⟨v,h1,h2⟩
   obtain ⟨E,l9⟩:=Fd (loadE m CH k);rw [<-l9] at g3 a5 Q;clear l9
   go_wp2_with fail
   refine g3.out.mono ?_;rintro e w14 ⟨vr,rfl,b4⟩;have m6:za wk w14:=g0.trans b4;have b0:Hid (za w12 w14):=a9.out.trans b4;have d:=zh (o.out.ext b0.out);have g6:=zh (d4.out.trans b0.out);have o4:=zh (a8.out.trans b0.out);clear b4 g0 g3;by_cases g7:E=0
   ·subst g7;obtain ⟨q,hq⟩:=Fd (x.fin+RB.length);have c7:Hid (RB <+: s.drop x.fin->zO m s x=some ⟨CH,k,q,SB'⟩):=fun h=>by rw [hq];exact Q.out h n8.out rfl
    have p7:=l0.out;have a2:=c8.out;have b5:=HF.out;have hw:IntKind.i64.wrap ((x.fin:Int)+(RB.length:Int))=(q:Int):=by rw [Eu];omega
    clear a5 Q m3 p7;by_cases s6:s.length<q
    ·have r7:(s.length:Int)<(q:Int):=by omega
     have U:x=Y:=by rw [<-HY.out,Co (J.out fun hp=>by have:=hp.length_le;rw [EX] at this;omega)]
     subst U;clear HY J c7;have f4:∀j,w14.frozen? ⟨g4,j,none⟩=false:=fun j=>d.out.frozen j
     obtain ⟨z0,z1,z2,z3⟩:w14.cell? ⟨g4,0,none⟩=some (.slice none 0 0)/\w14.cell? ⟨g4,1,none⟩=some (.int .i64 0)/\w14.cell? ⟨g4,2,none⟩=some (.string ⟨#[]⟩)/\w14.cell? ⟨g4,3,none⟩=some (.int .i64 0):=⟨d.out.cell (k:=0) rfl,d.out.cell (k:=1) rfl,d.out.cell (k:=2) rfl,d.out.cell (k:=3) rfl⟩;clear hq a2 b5
     go_wp2_with fail
     exact qo_fin d.out a4.out g6.out rfl rfl rfl
    ·have p5:x.fin<=q:=by omega
     have p6:q<=s.length:=by omega
     have s5:¬ (s.length:Int)<(q:Int):=by omega
     obtain ⟨C,hC⟩:=Fd ((s.drop x.fin).take RB.length);have e2:ByteArray.extract ⟨s.toArray⟩ x.fin q=⟨C.toArray⟩:=by rw [Dt s x.fin q p5,hC,hq,show x.fin+RB.length - x.fin=RB.length by omega]
     by_cases a0:C=RB
     ·have f2:RB <+: s.drop x.fin:=by rw [<-a0,hC];exact List.take_prefix _ _
      have n9:=zh (c7.out f2);have g1:(C==RB)=true:=by rw [a0];exact beq_self_eq_true _
      have M:=HB.out.ext m6;have f8:∀j,w14.frozen? ⟨g8,j,none⟩=false:=fun j=>M.frozen j
      have c0:Hid (JBox w14 g8 A n c x):=M;have HQ:=zh hq;have k8:=zh p6;clear hC a0 f2 hq a2 b5 J c7 M
      go_wp2_with fail
      have hJ:JBox ((((w14.setCell ⟨g8,0,none⟩ (.slice Av nv cv)).setCell ⟨g8,1,none⟩ (.int .i64 k)).setCell ⟨g8,2,none⟩ (.string ⟨SB'.toArray⟩)).setCell ⟨g8,3,none⟩ (.int .i64 q)) g8 Av nv cv ⟨CH,k,q,SB'⟩:=
       ((((show zl w14 g8 _ _ from c0.out).set (k:=0) (.slice Av nv cv)).set (k:=1) (.int .i64 k)).set (k:=2) (.string ⟨SB'.toArray⟩)).set (k:=3) (.int .i64 q)
      have o5:za w2 ((((w14.setCell ⟨g8,0,none⟩ (.slice Av nv cv)).setCell ⟨g8,1,none⟩ (.int .i64 k)).setCell ⟨g8,2,none⟩ (.string ⟨SB'.toArray⟩)).setCell ⟨g8,3,none⟩ (.int .i64 q)):=
       (((o4.out.setCell (p:=⟨g8,0,none⟩) c6.out _).setCell (p:=⟨g8,1,none⟩) c6.out _).setCell (p:=⟨g8,2,none⟩) c6.out _).setCell (p:=⟨g8,3,none⟩) c6.out _
      refine ⟨⟨rfl,Av,nv,cv,⟨CH,k,q,SB'⟩,hJ,(endJ_some n9.out).symm.trans HY.out,k8.out,j9.out,by (show SB'.length=8);rw [o2.out];rfl,o5⟩,?_⟩;rw [jSize_of hJ,jSize_of HB.out];have h1:=HQ.out;have h2:=k8.out;have h3:=o1.out
      (show s.length - q<s.length - x.fin)
      omega
     ·have g1:(C==RB)=false:=by rw [El];exact a0
      have U:x=Y:=by rw [<-HY.out,Co (J.out fun hp=>a0 (by obtain ⟨t,ht⟩:=hp;rw [hC,<-ht];simp))]
      subst U;clear HY J c7;have f4:∀j,w14.frozen? ⟨g4,j,none⟩=false:=fun j=>d.out.frozen j
      obtain ⟨z0,z1,z2,z3⟩:w14.cell? ⟨g4,0,none⟩=some (.slice none 0 0)/\w14.cell? ⟨g4,1,none⟩=some (.int .i64 0)/\w14.cell? ⟨g4,2,none⟩=some (.string ⟨#[]⟩)/\w14.cell? ⟨g4,3,none⟩=some (.int .i64 0):=⟨d.out.cell (k:=0) rfl,d.out.cell (k:=1) rfl,d.out.cell (k:=2) rfl,d.out.cell (k:=3) rfl⟩;clear hq hC a0 a2 b5
      go_wp2_with fail
      exact qo_fin d.out a4.out g6.out rfl rfl rfl
   ·have U:x=Y:=by rw [<-HY.out,Co (a5.out g7)]
    subst U;clear HY a5 J Q;have g1:(E==0)=false:=by rw [El];exact g7
    have g2:(E != 0)=true:=by rw [bne,g1];rfl
    have f4:∀j,w14.frozen? ⟨g4,j,none⟩=false:=fun j=>d.out.frozen j
    obtain ⟨z0,z1,z2,z3⟩:w14.cell? ⟨g4,0,none⟩=some (.slice none 0 0)/\w14.cell? ⟨g4,1,none⟩=some (.int .i64 0)/\w14.cell? ⟨g4,2,none⟩=some (.string ⟨#[]⟩)/\w14.cell? ⟨g4,3,none⟩=some (.int .i64 0):=⟨d.out.cell (k:=0) rfl,d.out.cell (k:=1) rfl,d.out.cell (k:=2) rfl,d.out.cell (k:=3) rfl⟩
    go_wp2_with fail
    exact qo_fin d.out a4.out g6.out rfl rfl rfl
theorem mRead_calls {ok:Nat->Prop} {m:MZ} {s:List UInt8} (w:World) (hm:Bt w ok v m ns) (hs:CF m ns) (hl:Lens m) (hc:BM m=0) (J:s.length<=40000000) (hp:zr (BT (zw m ns)) <+: s):
  Calls Tryz.prog 34 #[v,.string ⟨s.toArray⟩] w fun e w'=>∃A n c,e=.returned (.tuple #[.slice A n c,.int .i64 (endJ m s ⟨[],0,(zr (BT (zw m ns))).length,BT (zw m ns)⟩).steps,.int .i64 (endJ m s ⟨[],0,(zr (BT (zw m ns))).length,BT (zw m ns)⟩).fin,.int .i64 0])/\za w w':=by
 have HM:=zh hm;obtain ⟨f,u,t,rfl,⟨_,⟨Af,cf,rfl,-,-⟩,-⟩,⟨Au,cu,rfl,-,-⟩,⟨-,_,⟨At,ct,rfl,-,-⟩,-⟩⟩:=hm;have HO:Hid (∀W,za w W->Calls Tryz.prog 87 #[.agg #[.int .i64 m.w,.int .i64 m.h,.int .i64 m.l,.slice Af m.free.length cf,.slice Au m.up.length cu,.slice At m.tasks.length ct],.string ⟨s.toArray⟩] W (QOpenPost W (endJ m s ⟨[],0,(zr (BT (zw m ns))).length,BT (zw m ns)⟩))):=fun W h=>mOpen_calls W (HM.out.below h) hs hl hc J hp
 generalize endJ m s ⟨[],0,(zr (BT (zw m ns))).length,BT (zw m ns)⟩=x at HO⊢;clear hs hl hc J hp
 go_enter Tryz.func34,Tryz.ntmps34
 go_upto_region 1 with fail;obtain ⟨D,r0,r1,r2,r3,r4,r5⟩:=mz_box w m Af cf Au cu At ct;simp only [mzc] at D r0 r1 r2 r3 r4 r5;generalize w.alloc _=w2 at D r0 r1 r2 r3 r4 r5⊢;have G:=zh D;have a0:za w2 w2:=za.refl w2;clear D
 go_wp2_with fail
 refine (HO.out _ G.out).mono ?_;rintro e w3 ⟨Ac,nc,cc,rfl,I⟩;have O:Hid (za w w3):=G.out.trans I;clear I;go_upto_region 2 with fail;have U:=zl.new w3 #[.slice Ac nc cc,.int .i64 x.steps,.string ⟨x.sg.toArray⟩,.int .i64 x.fin] 146 (g:=w3.heap.size) rfl;have E:za w3 (w3.alloc (.cells #[.slice Ac nc cc,.int .i64 x.steps,.string ⟨x.sg.toArray⟩,.int .i64 x.fin] 146)):=(za.refl w3).alloc _;generalize w3.alloc _=w4 at U E⊢;obtain ⟨k0,k1,k2,k3⟩:=jbox_cells (x:=x) U;have k0:=za.rule k0;have k1:=za.rule k1;have k3:=za.rule k3;have M:=zh E;have hx:za w4 w4:=za.refl w4;clear U E k2 r0 r1 r2 r3 r4 r5 a0;refine Di (fun Q' B V=>?_) (fun c a a' w hd h=>by obtain ⟨t,d⟩:=a;obtain ⟨t',d'⟩:=a';cases hd;exact h);refine AA (S:=(fun W=>za w4 W)) AI (hx.drew) fun zH=>?_;generalize w4.drew=wd at zH⊢;refine ze (i:=0) (v:=?v1) rfl (by kernel_rfl) (by kernel_rfl) (by kernel_rfl) (by kernel_rfl) (fun _ _ _ h=>B _ _ _ _ (by rfl) h) (Or.inl ⟨?w1,?y1⟩) zH ?r1
 case w1=>rfl
 case y1=>(intro w o;go_simp;try with_reducible rfl)
 simp only [zd,DV];refine ze (i:=1) (v:=?v2) rfl (by kernel_rfl) (by kernel_rfl) (by kernel_rfl) (by kernel_rfl) (fun _ _ _ h=>B _ _ _ _ (by rfl) h) (Or.inl ⟨?w2,?y2⟩) zH ?r2
 case w2=>rfl
 case y2=>(intro w o;go_simp;try with_reducible rfl)
 simp only [zd,DV];refine ze (i:=2) (v:=?v3) rfl (by kernel_rfl) (by kernel_rfl) (by kernel_rfl) (by kernel_rfl) (fun _ _ _ h=>B _ _ _ _ (by rfl) h) (Or.inl ⟨?w3,?y3⟩) zH ?r3
 case w3=>rfl
 case y3=>(intro w o;go_simp;try with_reducible rfl)
 simp only [zd,DV];refine ze (i:=3) (v:=?v4) rfl (by kernel_rfl) (by kernel_rfl) (by kernel_rfl) (by kernel_rfl) (fun _ _ _ h=>B _ _ _ _ (by rfl) h) (Or.inl ⟨?w4,?y4⟩) zH ?r4
 case w4=>rfl
 case y4=>(intro w o;go_simp;try with_reducible rfl)
 simp only [zd,DV];refine ze (i:=4) (v:=?v5) rfl (by kernel_rfl) (by kernel_rfl) (by kernel_rfl) (by kernel_rfl) (fun _ _ _ h=>B _ _ _ _ (by rfl) h) (Or.inl ⟨?w5,?y5⟩) zH ?r5
 case w5=>rfl
 case y5=>(intro w o;go_simp;try with_reducible rfl)
 simp only [zd,DV];refine ze (i:=5) (v:=?v6) rfl (by kernel_rfl) (by kernel_rfl) (by kernel_rfl) (by kernel_rfl) (fun _ _ _ h=>B _ _ _ _ (by rfl) h) (Or.inl ⟨?w6,?y6⟩) zH ?r6
 case w6=>rfl
 case y6=>(intro w o;go_simp;try with_reducible rfl)
 simp only [zd,DV];refine ze (i:=6) (v:=?v7) rfl (by kernel_rfl) (by kernel_rfl) (by kernel_rfl) (by kernel_rfl) (fun _ _ _ h=>B _ _ _ _ (by rfl) h) (Or.inl ⟨?w7,?y7⟩) zH ?r7
 case w7=>rfl
 case y7=>(intro w o;go_simp;try with_reducible rfl)
 simp only [zd,DV];refine ze (i:=7) (v:=?v8) rfl (by kernel_rfl) (by kernel_rfl) (by kernel_rfl) (by kernel_rfl) (fun _ _ _ h=>B _ _ _ _ (by rfl) h) (Or.inl ⟨?w8,?y8⟩) zH ?r8
 case w8=>rfl
 case y8=>(intro w o;go_simp;try with_reducible rfl)
 simp only [zd,DV];refine ze (i:=8) (v:=?v9) rfl (by kernel_rfl) (by kernel_rfl) (by kernel_rfl) (by kernel_rfl) (fun _ _ _ h=>B _ _ _ _ (by rfl) h) (Or.inl ⟨?w9,?y9⟩) zH ?r9
 case w9=>rfl
 case y9=>(intro w o;go_simp;try with_reducible rfl)
 simp only [zd,DV];refine ze (i:=9) (v:=?v10) rfl (by kernel_rfl) (by kernel_rfl) (by kernel_rfl) (by kernel_rfl) (fun _ _ _ h=>B _ _ _ _ (by rfl) h) (Or.inl ⟨?w10,?y10⟩) zH ?r10
 case w10=>rfl
 case y10=>(intro w o;go_simp;try with_reducible rfl)
 simp only [zd,DV];refine zp (rs:=[10]) (by kernel_rfl) (by simp) ?_;refine zg.last rfl (by kernel_rfl) fun K hK=>?_;go_simp;have Q:Hid (za w4 _):=zH;go_simp;refine hK.out _ _ ?_;clear hK K;refine AV (by kernel_rfl) ?_ _;subst V;clear hx k0 k1 k3;go_wp2;have hE:=M.out.trans Q.out;refine ER (by simp [results,Tryz.results34,go_sem]) rfl ⟨Ac,nc,cc,rfl,O.out.trans hE⟩
end
end Go.Proofs.YtjomnbdjajjgfaaGreatDoor
