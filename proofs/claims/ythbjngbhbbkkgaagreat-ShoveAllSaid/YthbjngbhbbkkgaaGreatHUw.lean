/- RtSu -/
import Derived.Test.YthbjngbhbbkkgaaGreatHUa
import Derived.Test.YthbjngbhbbkkgaaGreatHUb
import Derived.Test.YthbjngbhbbkkgaaGreatHUc
import Derived.Test.YthbjngbhbbkkgaaGreatHUd
import Derived.Test.YthbjngbhbbkkgaaGreatHUe
import Derived.Test.YthbjngbhbbkkgaaGreatHUf
import Derived.Test.YthbjngbhbbkkgaaGreatHUg
import Derived.Test.YthbjngbhbbkkgaaGreatHUh
import Derived.Test.YthbjngbhbbkkgaaGreatHUi
import Derived.Test.YthbjngbhbbkkgaaGreatHUj
import Derived.Test.YthbjngbhbbkkgaaGreatHUk
import Derived.Test.YthbjngbhbbkkgaaGreatHUl
import Derived.Test.YthbjngbhbbkkgaaGreatHUm
import Derived.Test.YthbjngbhbbkkgaaGreatHUn
import Derived.Test.YthbjngbhbbkkgaaGreatHUo
import Derived.Test.YthbjngbhbbkkgaaGreatHUp
import Derived.Test.YthbjngbhbbkkgaaGreatHUr
import Derived.Test.YthbjngbhbbkkgaaGreatHUs
import Derived.Test.YthbjngbhbbkkgaaGreatHUt
set_option linter.unusedVariables false
set_option linter.unusedSimpArgs false
set_option maxRecDepth 100000
set_option maxHeartbeats 16000000
namespace Go.Proofs.YthbjngbhbbkkgaaGreat
open Go.RowKit
attribute [local go_sem ↓] Go.wp_at_zero Go.wp_at_succ
def subN (m:MZ) (ps:List (List Int)) (t:Int) (ns:List ByteArray):List ByteArray:=if (zau m ps && zar m t)=true then (zat ps t.toNat).map (ns.getD · ⟨#[]⟩) else []
def zai (ps:List (List Int)) (t k:Nat):List Nat:=(List.range k).filter (zah ps t)
theorem keepTo_t {ps:List (List Int)} {t k:Nat} (h:zah ps t k=true):zai ps t (k+1)=zai ps t k++[k]:=by
 unfold zai;rw [List.range_succ,List.filter_append,List.filter_cons_of_pos h];rfl
theorem keepTo_f {ps:List (List Int)} {t k:Nat} (h:zah ps t k=false):zai ps t (k+1)=zai ps t k:=by
 unfold zai;rw [List.range_succ,List.filter_append,List.filter_cons_of_neg (by simp [h])];simp
theorem keepTo_len (ps:List (List Int)) (t k:Nat):(zai ps t k).length≤k:=Nat.le_trans (List.length_filter_le _ _) (by simp)
def SubL (w0 wr:World) (g7:Nat) (m:MZ) (ns:List ByteArray) (vU:Value) (l:List Nat):Prop:=
 ∃vF vT,SubI w0 wr g7 m.w m.h m.l m.up vF vU vT vF vT (l.map (m.free.getD · [])) (l.map (m.tasks.getD · ([],[]))) (l.map (ns.getD · ⟨#[]⟩))
theorem tasksNAt {w:World} {ok:Nat→Prop} {A:Option Addr} {n c:Nat} {l:List (List Int×List Int)} {ns:List ByteArray} (h:TasksN w ok (.slice A n c) l ns) {k:Nat} (hk:k<l.length):
  ∃b off u1 u2,A=some ⟨b,off,none⟩∧w.cell? ⟨b,off+k*3,none⟩=some (.string (ns.getD k ⟨#[]⟩))∧w.cell? ⟨b,off+k*3+1,none⟩=some u1∧w.cell? ⟨b,off+k*3+2,none⟩=some u2∧zf w ok u1 l[k].1∧zf w ok u2 l[k].2:=by
 obtain ⟨hn,vs,⟨A',c',hv,_,hl,hc⟩,he⟩:=h;injection hv with e1 e2 e3;subst e1;obtain ⟨b,off,rfl,hb,hc⟩:=hc (by omega);have hk2:k<ns.length:=by omega
 obtain ⟨u1,u2,h0,h1,h2,i1,i2⟩:=he k _ _ (List.getElem?_eq_getElem hk) (List.getElem?_eq_getElem hk2);have e:ns.getD k ⟨#[]⟩=ns[k]:=by rw [List.getD_eq_getElem?_getD,List.getElem?_eq_getElem hk2];rfl
 rw [e];exact ⟨b,off,u1,u2,rfl,hc _ _ h0,by rw [Nat.add_assoc];exact hc _ _ h1,by rw [Nat.add_assoc];exact hc _ _ h2,i1,i2⟩
def V8 (B g7 g9:Nat) (vT u1 u2:Value) (s:ByteArray) (l1 l2:List Int) (j:Nat) (x:Value) (W:World):Prop:=match j with
 | 0=>x=.pointer (some ⟨g7,5,none⟩) | 1=>x=vT | 2=>x=.pointer (some ⟨g9,0,none⟩) | 3=>x=.string s | 4=>x=.pointer (some ⟨g9,1,none⟩) | 5=>x=u1
 | 6=>zy W B x l1 | 7=>x=.pointer (some ⟨g9,2,none⟩) | 8=>x=u2 | 9=>zy W B x l2
 | 10=>∃y1 y2,x=.agg #[.string s,y1,y2]∧zy W B y1 l1∧zy W B y2 l2
 | 11=>∃g y1 y2,x=.slice (some ⟨g,0,none⟩) 1 1∧Blk W g 56 #[.string s,y1,y2]∧zy W B y1 l1∧zy W B y2 l2
 | _=>True
theorem zaD {W W':World} {B sz n:Nat} {e:TypeId} {v:Value} {xs:List Value} (h:W.ownsRow B e sz v n xs) (hE:Ext W W'):W'.ownsRow B e sz v n xs:=zak h (grown_ext hE) (fun b hb=>by cases hb)
theorem V8.st {B g7 g9:Nat} {vT u1 u2:Value} {s:ByteArray} {l1 l2:List Int}:StV (V8 B g7 g9 vT u1 u2 s l1 l2):=fun j x W W' hE h=>
 match j,h with
 | 0,h | 1,h | 2,h | 3,h | 4,h | 5,h | 7,h | 8,h=>h
 | 6,h | 9,h=>zaD h hE
 | 10,⟨y1,y2,e,h1,h2⟩=>⟨y1,y2,e,zaD h1 hE,zaD h2 hE⟩
 | 11,⟨g,y1,y2,e,hb,h1,h2⟩=>⟨g,y1,y2,e,hb.ext hE,zaD h1 hE,zaD h2 hE⟩
 | _+12,_=>trivial
def D8 (j:Nat):List Nat:=match j with | 1=>[0] | 3=>[2] | 5=>[4] | 6=>[5] | 8=>[7] | 9=>[8,6] | 10=>[3,6,9] | 11=>[10] | _=>[]
def V9 (B g7 gm:Nat) (vF fs:Value) (k:Nat) (af:Addr) (uf:Value) (l:List Bool) (j:Nat) (x:Value) (W:World):Prop:=match j with
 | 0=>x=.pointer (some ⟨g7,3,none⟩) | 1=>x=vF | 2=>x=.pointer (some ⟨gm,3,none⟩) | 3=>x=fs | 4=>x=.int .i64 k | 5=>x=.pointer (some af) | 6=>x=uf
 | 7=>zb2 W B x l
 | 8=>∃g y,x=.slice (some ⟨g,0,none⟩) 1 1∧Blk W g 29 #[y]∧zb2 W B y l
 | _=>True
theorem V9.st {B g7 gm:Nat} {vF fs:Value} {k:Nat} {af:Addr} {uf:Value} {l:List Bool}:StV (V9 B g7 gm vF fs k af uf l):=fun j x W W' hE h=>
 match j,h with
 | 0,h | 1,h | 2,h | 3,h | 4,h | 5,h | 6,h=>h
 | 7,h=>zaD h hE
 | 8,⟨g,y,e,hb,h1⟩=>⟨g,y,e,hb.ext hE,zaD h1 hE⟩
 | _+9,_=>trivial
def D9 (j:Nat):List Nat:=match j with | 1=>[0] | 3=>[2] | 5=>[3,4] | 6=>[5] | 7=>[6] | 8=>[7] | _=>[]
theorem row1 {W:World} {g n:Nat} {t:TypeId} {cs:List Value} (hb:Blk W g t cs.toArray) (hn:cs.length=n):Row W (fun _=>True) n (.slice (some ⟨g,0,none⟩) 1 1) 1 cs:=
 ⟨_,1,rfl,Nat.le_refl _,by omega,fun _=>⟨g,0,rfl,trivial,fun j u hu=>by rw [Nat.zero_add];exact hb.cell (by simpa using hu)⟩⟩
theorem map_snoc' {α β:Type} (f:α→β) (l:List α) (x:α):(l++[x]).map f=l.map f++[f x]:=by simp
theorem sub_calls {okm okf:Nat→Prop} {v vf:Value} {m:MZ} {ps:List (List Int)} {ns:List ByteArray} (t:Int) (w:World) (hm:MazeN w okm v m ns) (hl:Lens m) (hf:zo w okf vf ps) (hfl:ps.length≤20000000000000) (hfx:∀x∈ps,x.length≤20000000000000):
  Calls Tryz.prog 15 #[v,vf,.int .i64 t] w fun e w'=>∃v',e=.returned v'∧Ext w w'∧MazeN w' (fun b=>w.heap.size≤b) v' (subO m ps t) (subN m ps t ns):=by
 have HMZ:=zh hm.maze;have HL:=zh hl;have HFX:=zh hfx;have HFS:=zh hf;obtain ⟨_,_,_,rfl,hmf,hmu,hmt⟩:=hm;have HMF:=zh hmf;have HMU:=zh hmu;have HMT:=zh hmt;obtain ⟨_,⟨Af,cf,rfl,hcf,-⟩,-⟩:=hmf;obtain ⟨Au,cu,rfl,hcu,-⟩:=hmu;obtain ⟨-,_,⟨At,ct,rfl,hct,-⟩,-⟩:=hmt;obtain ⟨vfs,⟨A,c,rfl,hcc,hr⟩,hef⟩:=hf;have HR:=zh hr;have HEF:=zh hef;have hlts:=hl.ts;clear hl hr hef hfx
 go_enter Tryz.func15,Tryz.ntmps15
 go_wp2_with fail
 obtain ⟨hb1,r0,r1,r2,r3,r4,r5⟩:=box6 w (.int .i64 m.w) (.int .i64 m.h) (.int .i64 m.l) (.slice Af m.free.length cf) (.slice Au m.up.length cu) (.slice At m.tasks.length ct);have hs1:(w.alloc (.cells #[.int .i64 m.w,.int .i64 m.h,.int .i64 m.l,.slice Af m.free.length cf,.slice Au m.up.length cu,.slice At m.tasks.length ct] 32)).heap.size=w.heap.size+1:=by simp
 generalize w.alloc (.cells #[.int .i64 m.w,.int .i64 m.h,.int .i64 m.l,.slice Af m.free.length cf,.slice Au m.up.length cu,.slice At m.tasks.length ct] 32)=w1 at hb1 r0 r1 r2 r3 r4 r5 hs1⊢;have hBZ:=Blk.new w1 #[.int .i64 0,.int .i64 0,.int .i64 0,.slice none 0 0,.slice none 0 0,.slice none 0 0] 32 (g:=w1.heap.size) rfl;have hb2:Ext w1 (w1.alloc (.cells #[.int .i64 0,.int .i64 0,.int .i64 0,.slice none 0 0,.slice none 0 0,.slice none 0 0] 32)):=(Ext.refl w1).alloc _;have hs2:(w1.alloc (.cells #[.int .i64 0,.int .i64 0,.int .i64 0,.slice none 0 0,.slice none 0 0,.slice none 0 0] 32)).heap.size=w1.heap.size+1:=by simp
 generalize w1.alloc (.cells #[.int .i64 0,.int .i64 0,.int .i64 0,.slice none 0 0,.slice none 0 0,.slice none 0 0] 32)=w2 at hBZ hb2 hs2⊢;obtain ⟨gm,hgm⟩:∃gm,gm=w.heap.size:=⟨_,rfl⟩;rw [←hgm] at r0 r1 r2 r3 r4 r5 hs1⊢;obtain ⟨gz,hgz⟩:∃gz,gz=gm+1:=⟨_,rfl⟩;rw [←hgz] at hs1⊢;rw [hs1] at hBZ hs2;have HZ:=zh hBZ;have HSZ:Hid (gz=w.heap.size+1∧w2.heap.size=gz+1):=⟨by omega,hs2⟩;have HE12:=zh hb2;have HE2:=zh (hb1.trans hb2);have r0:=fun W h=>r0 W (HE12.out.trans h)
 have r1:=fun W h=>r1 W (HE12.out.trans h)
 have r2:=fun W h=>r2 W (HE12.out.trans h)
 have r3:=fun W h=>r3 W (HE12.out.trans h)
 have r4:=fun W h=>r4 W (HE12.out.trans h)
 have r5:=fun W h=>r5 W (HE12.out.trans h)
 clear hgm hgz hs1 hs2 hBZ hb1 hb2;have hx:Ext w2 w2:=Ext.refl w2
 go_wp2_with fail
 refine (zcN w2 (HMZ.out.below HE2.out) HL.out (HFS.out.below HE2.out) hfl HFX.out).mono ?_;rintro e w3 ⟨rfl,hE3⟩;clear hx;have hx:Ext w2 w3:=hE3
 cases hLB:zau m ps with
 | false=>
  have HO:Hid (subO m ps t=zeroM∧subN m ps t ns=[]):=⟨by unfold subO;rw [hLB];rfl,by unfold subN;rw [hLB];rfl⟩;clear hLB;have hBZ:Blk w3 gz 32 #[.int .i64 0,.int .i64 0,.int .i64 0,.slice none 0 0,.slice none 0 0,.slice none 0 0]:=HZ.out.ext hx;have z0:w3.cell? ⟨gz,0,none⟩=some (.int .i64 0):=hBZ.cell (k:=0) rfl;have z1:w3.cell? ⟨gz,1,none⟩=some (.int .i64 0):=hBZ.cell (k:=1) rfl;have z2:w3.cell? ⟨gz,2,none⟩=some (.int .i64 0):=hBZ.cell (k:=2) rfl;have z3:w3.cell? ⟨gz,3,none⟩=some (.slice none 0 0):=hBZ.cell (k:=3) rfl;have z4:w3.cell? ⟨gz,4,none⟩=some (.slice none 0 0):=hBZ.cell (k:=4) rfl;have z5:w3.cell? ⟨gz,5,none⟩=some (.slice none 0 0):=hBZ.cell (k:=5) rfl;have hfz:∀j,w3.frozen? ⟨gz,j,none⟩=false:=fun j=>hBZ.frozen j
  have HBZ:=zh hBZ;have HXW:=zh (HE2.out.trans hx);clear hBZ hx
  go_wp2_with fail
  refine zc4 (P:=fun W=>bodyPost Tryz.prog Tryz.f15 _ Exit.ret _ W) (g2:=gz) ?_ HBZ.out;intro WZ hbz hEb hk;have y0:WZ.cell? ⟨gz,0,none⟩=some (.int .i64 0):=hbz.cell (k:=0) rfl;have y1:WZ.cell? ⟨gz,1,none⟩=some (.int .i64 0):=hbz.cell (k:=1) rfl;have y2:WZ.cell? ⟨gz,2,none⟩=some (.int .i64 0):=hbz.cell (k:=2) rfl;have y3:WZ.cell? ⟨gz,3,none⟩=some (.slice none 0 0):=hbz.cell (k:=3) rfl;have y4:WZ.cell? ⟨gz,4,none⟩=some (.slice none 0 0):=hbz.cell (k:=4) rfl;have y5:WZ.cell? ⟨gz,5,none⟩=some (.slice none 0 0):=hbz.cell (k:=5) rfl;refine bodyPost_ret (v:=.agg #[.int .i64 0,.int .i64 0,.int .i64 0,.slice none 0 0,.slice none 0 0,.slice none 0 0]) (by simp [results,Tryz.results15,go_sem,y0,y1,y2,y3,y4,y5]) rfl ⟨_,rfl,Below.trans HXW.out (hEb.mono (by have:=HSZ.out.1;omega)),?_⟩;rw [HO.out.1,HO.out.2];exact ⟨_,_,_,rfl,⟨[],⟨none,0,rfl,Nat.le_refl _,zY.nil _ _ _ _⟩,fun i x hx=>by simp [zeroM] at hx⟩,⟨none,0,rfl,Nat.le_refl _,zY.nil _ _ _ _⟩,rfl,[],⟨none,0,rfl,Nat.le_refl _,zY.nil _ _ _ _⟩,fun i x s hx=>by simp [zeroM] at hx⟩
 | true=>
  go_wp2_with fail
  refine (zda t w3 (HMZ.out.below (HE2.out.trans hx)) HL.out).mono ?_;rintro e w4 ⟨rfl,hE4⟩;have hx:Ext w2 w4:=hx.trans hE4
  cases hKB:zar m t with
  | false=>
   have HO:Hid (subO m ps t=zeroM∧subN m ps t ns=[]):=⟨by unfold subO;rw [hKB,Bool.and_false];rfl,by unfold subN;rw [hKB,Bool.and_false];rfl⟩;clear hLB hKB;have hBZ:Blk w4 gz 32 #[.int .i64 0,.int .i64 0,.int .i64 0,.slice none 0 0,.slice none 0 0,.slice none 0 0]:=HZ.out.ext hx;have z0:w4.cell? ⟨gz,0,none⟩=some (.int .i64 0):=hBZ.cell (k:=0) rfl;have z1:w4.cell? ⟨gz,1,none⟩=some (.int .i64 0):=hBZ.cell (k:=1) rfl;have z2:w4.cell? ⟨gz,2,none⟩=some (.int .i64 0):=hBZ.cell (k:=2) rfl;have z3:w4.cell? ⟨gz,3,none⟩=some (.slice none 0 0):=hBZ.cell (k:=3) rfl;have z4:w4.cell? ⟨gz,4,none⟩=some (.slice none 0 0):=hBZ.cell (k:=4) rfl;have z5:w4.cell? ⟨gz,5,none⟩=some (.slice none 0 0):=hBZ.cell (k:=5) rfl;have hfz:∀j,w4.frozen? ⟨gz,j,none⟩=false:=fun j=>hBZ.frozen j
   have HBZ:=zh hBZ;have HXW:=zh (HE2.out.trans hx);clear hBZ hx
   go_wp2_with fail
   refine zc4 (P:=fun W=>bodyPost Tryz.prog Tryz.f15 _ Exit.ret _ W) (g2:=gz) ?_ HBZ.out;intro WZ hbz hEb hk;have y0:WZ.cell? ⟨gz,0,none⟩=some (.int .i64 0):=hbz.cell (k:=0) rfl;have y1:WZ.cell? ⟨gz,1,none⟩=some (.int .i64 0):=hbz.cell (k:=1) rfl;have y2:WZ.cell? ⟨gz,2,none⟩=some (.int .i64 0):=hbz.cell (k:=2) rfl;have y3:WZ.cell? ⟨gz,3,none⟩=some (.slice none 0 0):=hbz.cell (k:=3) rfl;have y4:WZ.cell? ⟨gz,4,none⟩=some (.slice none 0 0):=hbz.cell (k:=4) rfl;have y5:WZ.cell? ⟨gz,5,none⟩=some (.slice none 0 0):=hbz.cell (k:=5) rfl;refine bodyPost_ret (v:=.agg #[.int .i64 0,.int .i64 0,.int .i64 0,.slice none 0 0,.slice none 0 0,.slice none 0 0]) (by simp [results,Tryz.results15,go_sem,y0,y1,y2,y3,y4,y5]) rfl ⟨_,rfl,Below.trans HXW.out (hEb.mono (by have:=HSZ.out.1;omega)),?_⟩;rw [HO.out.1,HO.out.2];exact ⟨_,_,_,rfl,⟨[],⟨none,0,rfl,Nat.le_refl _,zY.nil _ _ _ _⟩,fun i x hx=>by simp [zeroM] at hx⟩,⟨none,0,rfl,Nat.le_refl _,zY.nil _ _ _ _⟩,rfl,[],⟨none,0,rfl,Nat.le_refl _,zY.nil _ _ _ _⟩,fun i x s hx=>by simp [zeroM] at hx⟩
  | true=>
   have HO:Hid (subO m ps t=zay m ps t.toNat∧subN m ps t ns=(zat ps t.toNat).map (ns.getD · ⟨#[]⟩)):=⟨by unfold subO;rw [hLB,hKB];rfl,by unfold subN;rw [hLB,hKB];rfl⟩;obtain ⟨hc0,hpl,-⟩:=zC.1 hLB;obtain ⟨-,ht0,ht1⟩:=zaf.1 hKB;have HC:=zh hc0;have G:=zh (zx.of hc0);have hn1:=G.out.dim.n1;have hup:m.up.length≤300:=by have:=G.out.dim.up;omega
   have htk:=G.out.tk;have hp6:ps.length≤6:=by omega
   have HPL:=zh hpl;clear hc0 hLB hKB hn1 hpl
   go_wp2_with fail
   have HX4:=zh hx;have HEW4:=zh (HE2.out.trans hx);have k0:∀W,Ext w4 W→W.cell? ⟨gm,0,none⟩=some (.int .i64 m.w):=fun W h=>r0 W (HX4.out.trans h)
   have k1:∀W,Ext w4 W→W.cell? ⟨gm,1,none⟩=some (.int .i64 m.h):=fun W h=>r1 W (HX4.out.trans h)
   have k2:∀W,Ext w4 W→W.cell? ⟨gm,2,none⟩=some (.int .i64 m.l):=fun W h=>r2 W (HX4.out.trans h)
   have k3:∀W,Ext w4 W→W.cell? ⟨gm,3,none⟩=some (.slice Af m.free.length cf):=fun W h=>r3 W (HX4.out.trans h)
   have k4:∀W,Ext w4 W→W.cell? ⟨gm,4,none⟩=some (.slice Au m.up.length cu):=fun W h=>r4 W (HX4.out.trans h)
   have k5:∀W,Ext w4 W→W.cell? ⟨gm,5,none⟩=some (.slice At m.tasks.length ct):=fun W h=>r5 W (HX4.out.trans h)
   clear r0 r1 r2 r3 r4 r5 hx;go_cut [7] (fun v wx=>∃g7 vU,v=.pointer (some ⟨g7,0,none⟩)∧Hid (SubI w4 wx g7 m.w m.h m.l m.up (.slice none 0 0) vU (.slice none 0 0) (.slice none 0 0) (.slice none 0 0) [] [] []))
   case first=>
    refine wp_region_held_drew (S:=(fun W=>Ext w4 W)) zS ((Ext.refl w4).drew) (fun zH=>?_);have hHd:Ext w4 w4.drew:=zH;generalize w4.drew=wd at zH hHd⊢;refine rtT 0 zH ?_;simp only [za,Act.put];refine rtT 1 zH ?_;simp only [za,Act.put];refine rtT 2 zH ?_;simp only [za,Act.put];refine rtT 3 zH ?_;simp only [za,Act.put];refine rtT 4 zH ?_;simp only [za,Act.put];refine rtT 5 zH ?_;simp only [za,Act.put];refine rtT 6 zH ?_;simp only [za,Act.put];refine rtT 7 zH ?_;simp only [za,Act.put];refine rdA [8,10] ?_;refine AllReadyH.cons rfl (fun K hK=>?_) ?_
    ·go_simp;go_at_call 45;refine (zcE wd (HMU.out.below (HEW4.out.trans hHd)) (by omega)).mono ?_;rintro e wc ⟨vU,rfl,hEc,hOc⟩;obtain ⟨AU,nU,cU,rfl⟩:∃A n c,vU=.slice A n c:=by obtain ⟨A,c,e,-⟩:=Row.of_own hOc;exact ⟨A,_,c,e⟩
     have HO4:Hid (zb2 wc w4.heap.size (.slice AU nU cU) m.up):=hOc.mono (Below.size (hHd));have hXc:Ext w4 wc:=Ext.trans (hHd) hEc;clear hOc hEc;refine hK.out _ _ (hXc) (fun zH=>?_);clear hK K;try simp only [za,Act.put]
     refine rdA [9,10] ?_;refine AllReadyH.cons rfl (fun K hK=>?_) ?_
     ·go_simp;refine hK.out _ _ (hXc) (fun zH=>?_);clear hK K;try simp only [za,Act.put]
      refine rtR 10 (fun K hK=>?_);go_simp;have hBa:=Blk.new wc #[.int .i64 0,.int .i64 0,.int .i64 0,.slice none 0 0,.slice none 0 0,.slice none 0 0] 32 (g:=wc.heap.size) rfl;have hXa:Ext w4 (wc.alloc (.cells #[.int .i64 0,.int .i64 0,.int .i64 0,.slice none 0 0,.slice none 0 0,.slice none 0 0] 32)):=Ext.alloc (hXc) _;have hLa:w4.heap.size≤wc.heap.size:=Below.size (hXc);have HOa:Hid (zb2 (wc.alloc (.cells #[.int .i64 0,.int .i64 0,.int .i64 0,.slice none 0 0,.slice none 0 0,.slice none 0 0] 32)) w4.heap.size (.slice AU nU cU) m.up):=zak HO4.out (grown_ext ((Ext.refl _).alloc _)) (fun b hb=>by cases hb);generalize (wc.alloc (.cells #[.int .i64 0,.int .i64 0,.int .i64 0,.slice none 0 0,.slice none 0 0,.slice none 0 0] 32))=wa at*;generalize wc.heap.size=g7 at*;refine hK.out _ _ (hXa) (fun zH=>?_);clear hK K;try simp only [za,Act.put]
      refine rtR 11 (fun K hK=>?_);have c0:=hBa.cell (k:=0) rfl;have c1:=hBa.cell (k:=1) rfl;have c2:=hBa.cell (k:=2) rfl;have c3:=hBa.cell (k:=3) rfl;have c4:=hBa.cell (k:=4) rfl;have c5:=hBa.cell (k:=5) rfl;have hfb:=fun j=>hBa.frozen j
      go_simp;obtain ⟨hB6,hG6⟩:=sto6 (a:=.int .i64 m.w) (b:=.int .i64 m.h) (c:=.int .i64 m.l) (d:=.slice none 0 0) (e:=.slice AU nU cU) (f:=.slice none 0 0) hBa;have hE6:=Below.grown (hXa) hG6 (Below.size (hXa)) (fun k hk=>by injection hk with hk;omega);have HO6:=zh (zak HOa.out hG6 (fun b hb=>by injection hb with hb;subst hb;exact ⟨_,_,hBa,by decide⟩));refine hK.out _ _ (hE6) (fun zH=>?_);clear hK K;try simp only [za,Act.put]
      refine wpAnyH_done (by kernel_rfl) ?_ _;go_wp2;go_meet;exact ⟨_,_,rfl,SubI.start hE6 hLa hB6 HO6.out⟩
     refine AllReadyH.cons rfl (fun K hK=>?_) .nil;go_simp;have hBa:=Blk.new wc #[.int .i64 0,.int .i64 0,.int .i64 0,.slice none 0 0,.slice none 0 0,.slice none 0 0] 32 (g:=wc.heap.size) rfl;have hXa:Ext w4 (wc.alloc (.cells #[.int .i64 0,.int .i64 0,.int .i64 0,.slice none 0 0,.slice none 0 0,.slice none 0 0] 32)):=Ext.alloc (hXc) _;have hLa:w4.heap.size≤wc.heap.size:=Below.size (hXc);have HOa:Hid (zb2 (wc.alloc (.cells #[.int .i64 0,.int .i64 0,.int .i64 0,.slice none 0 0,.slice none 0 0,.slice none 0 0] 32)) w4.heap.size (.slice AU nU cU) m.up):=zak HO4.out (grown_ext ((Ext.refl _).alloc _)) (fun b hb=>by cases hb);generalize (wc.alloc (.cells #[.int .i64 0,.int .i64 0,.int .i64 0,.slice none 0 0,.slice none 0 0,.slice none 0 0] 32))=wa at*;generalize wc.heap.size=g7 at*;refine hK.out _ _ (hXa) (fun zH=>?_);clear hK K;try simp only [za,Act.put]
     refine rtR 9 (fun K hK=>?_);go_simp;refine hK.out _ _ (hXa) (fun zH=>?_);clear hK K;try simp only [za,Act.put]
     refine rtR 11 (fun K hK=>?_);have c0:=hBa.cell (k:=0) rfl;have c1:=hBa.cell (k:=1) rfl;have c2:=hBa.cell (k:=2) rfl;have c3:=hBa.cell (k:=3) rfl;have c4:=hBa.cell (k:=4) rfl;have c5:=hBa.cell (k:=5) rfl;have hfb:=fun j=>hBa.frozen j
     go_simp;obtain ⟨hB6,hG6⟩:=sto6 (a:=.int .i64 m.w) (b:=.int .i64 m.h) (c:=.int .i64 m.l) (d:=.slice none 0 0) (e:=.slice AU nU cU) (f:=.slice none 0 0) hBa;have hE6:=Below.grown (hXa) hG6 (Below.size (hXa)) (fun k hk=>by injection hk with hk;omega);have HO6:=zh (zak HOa.out hG6 (fun b hb=>by injection hb with hb;subst hb;exact ⟨_,_,hBa,by decide⟩));refine hK.out _ _ (hE6) (fun zH=>?_);clear hK K;try simp only [za,Act.put]
     refine wpAnyH_done (by kernel_rfl) ?_ _;go_wp2;go_meet;exact ⟨_,_,rfl,SubI.start hE6 hLa hB6 HO6.out⟩
    refine AllReadyH.cons rfl (fun K hK=>?_) .nil;go_simp;have hBa:=Blk.new wd #[.int .i64 0,.int .i64 0,.int .i64 0,.slice none 0 0,.slice none 0 0,.slice none 0 0] 32 (g:=wd.heap.size) rfl;have hXa:Ext w4 (wd.alloc (.cells #[.int .i64 0,.int .i64 0,.int .i64 0,.slice none 0 0,.slice none 0 0,.slice none 0 0] 32)):=Ext.alloc (hHd) _;have hLa:w4.heap.size≤wd.heap.size:=Below.size (hHd);generalize (wd.alloc (.cells #[.int .i64 0,.int .i64 0,.int .i64 0,.slice none 0 0,.slice none 0 0,.slice none 0 0] 32))=wa at*;generalize wd.heap.size=g7 at*;refine hK.out _ _ (hXa) (fun zH=>?_);clear hK K;try simp only [za,Act.put]
    refine rtR 8 (fun K hK=>?_);go_simp;go_at_call 45;refine (zcE wa (HMU.out.below (HEW4.out.trans hXa)) (by omega)).mono ?_;rintro e wc ⟨vU,rfl,hEc,hOc⟩;obtain ⟨AU,nU,cU,rfl⟩:∃A n c,vU=.slice A n c:=by obtain ⟨A,c,e,-⟩:=Row.of_own hOc;exact ⟨A,_,c,e⟩
    have HO4:Hid (zb2 wc w4.heap.size (.slice AU nU cU) m.up):=hOc.mono (Below.size (hXa));have hXc:Ext w4 wc:=Ext.trans (hXa) hEc;have hBc:=hBa.ext hEc;clear hOc hEc;refine hK.out _ _ (hXc) (fun zH=>?_);clear hK K;try simp only [za,Act.put]
    refine rtR 9 (fun K hK=>?_);go_simp;refine hK.out _ _ (hXc) (fun zH=>?_);clear hK K;try simp only [za,Act.put]
    refine rtR 11 (fun K hK=>?_);have c0:=hBc.cell (k:=0) rfl;have c1:=hBc.cell (k:=1) rfl;have c2:=hBc.cell (k:=2) rfl;have c3:=hBc.cell (k:=3) rfl;have c4:=hBc.cell (k:=4) rfl;have c5:=hBc.cell (k:=5) rfl;have hfb:=fun j=>hBc.frozen j
    go_simp;obtain ⟨hB6,hG6⟩:=sto6 (a:=.int .i64 m.w) (b:=.int .i64 m.h) (c:=.int .i64 m.l) (d:=.slice none 0 0) (e:=.slice AU nU cU) (f:=.slice none 0 0) hBc;have hE6:=Below.grown (hXc) hG6 (Below.size (hXc)) (fun k hk=>by injection hk with hk;omega);have HO6:=zh (zak HO4.out hG6 (fun b hb=>by injection hb with hb;subst hb;exact ⟨_,_,hBc,by decide⟩));refine hK.out _ _ (hE6) (fun zH=>?_);clear hK K;try simp only [za,Act.put]
    refine wpAnyH_done (by kernel_rfl) ?_ _;go_wp2;go_meet;exact ⟨_,_,rfl,SubI.start hE6 hLa hB6 HO6.out⟩
   case rest=>
    obtain ⟨g7,vU,rfl,hS⟩:=hcut;have hx4:Ext w4 wc:=hS.out.ext
    go_wp2_with fail
    clear hx4;have hS0:Hid (SubL w4 wc g7 m ns vU (zai ps t.toNat 0)):=⟨_,_,hS.out⟩;clear hS;go_loopw [34] (fun i wr=>∃k:Nat,k≤m.tasks.length∧i=.int .i64 (k:Nat)∧Hid (SubL w4 wr g7 m ns vU (zai ps t.toNat k))) (fun i _=>m.tasks.length - (intOf i).toNat)
    case atStart=>exact ⟨0,Nat.zero_le _,rfl,hS0⟩
    clear hS0
    case round=>
     obtain ⟨k,hk,rfl,hS⟩:=hrel;obtain ⟨wk,rfl⟩:∃wk:World,wk=wr:=⟨_,rfl⟩;have hxk:Ext w4 wk:=by obtain ⟨_,_,h⟩:=hS.out;exact h.ext
     have HWK:=zh (HEW4.out.trans hxk);have HXK4:=zh hxk;by_cases hlt:k<m.tasks.length
     ·obtain ⟨bt,offt,u1,u2,rfl,hs0,hs1,hs2,hi1,hi2⟩:=tasksNAt (HMT.out.below HWK.out) hlt;have htl:=HL.out.tl _ (List.getElem_mem hlt);have hget:m.tasks.getD k ([],[])=m.tasks[k]:=by rw [List.getD_eq_getElem?_getD,List.getElem?_eq_getElem hlt];rfl
      have HGT:=zh hget;clear hget;obtain ⟨tk,htk'⟩:∃tk,tk=m.tasks[k]:=⟨_,rfl⟩;rw [←htk'] at hi1 hi2 htl HGT;clear htk';obtain ⟨s,hss⟩:∃s,s=ns.getD k ⟨#[]⟩:=⟨_,rfl⟩;rw [←hss] at hs0;have HSS:=zh hss;clear hss;have HI1:=zh hi1;have HI2:=zh hi2;obtain ⟨A1,c1,rfl,-,-⟩:=hi1;obtain ⟨A2,c2,rfl,-,-⟩:=hi2;have hkp:k<ps.length:=by have:=HPL.out;omega
      obtain ⟨bp,offp,up,rfl,_,hcp0,hup⟩:=zP HR.out HEF.out hkp hkp;have hcp:wk.cell? ⟨bp,offp+k,none⟩=some up:=HWK.out.cell hcp0;have hpd:ps.getD k []=ps[k]:=by rw [List.getD_eq_getElem?_getD,List.getElem?_eq_getElem hkp];rfl
      have HKB:Hid (zah ps t.toNat k=(decide ((k:Int)=t) || decide (0<ps[k].length))):=by
       show _=_;unfold zah;rw [hpd];congr 1
       ·rw [decide_eq_decide];omega
       ·rw [decide_eq_decide,Ne,←List.length_eq_zero_iff];omega
      obtain ⟨q,hq⟩:∃q,q=ps[k]:=⟨_,rfl⟩;rw [←hq] at hup HKB;obtain ⟨Ap,cp,rfl,hcq,-⟩:=hup;obtain ⟨htl1,htl2⟩:=htl;have hkI:(k:Int)<(ps.length:Int):=by omega
      have hcpI:ps.length≤c:=hcc;clear hcp0 hpd hq;go_upto_region 7 with fail;have hB9:=Blk.new wk #[.string s,.slice A1 tk.1.length c1,.slice A2 tk.2.length c2] 56 (g:=wk.heap.size) rfl;have hE9:Ext wk (wk.alloc (.cells #[.string s,.slice A1 tk.1.length c1,.slice A2 tk.2.length c2] 56)):=(Ext.refl wk).alloc _;generalize wk.alloc (.cells #[.string s,.slice A1 tk.1.length c1,.slice A2 tk.2.length c2] 56)=w9 at hB9 hE9⊢;obtain ⟨g9,hg9⟩:∃g9,g9=wk.heap.size:=⟨_,rfl⟩;rw [←hg9] at hB9⊢;clear hg9;have hcp9:w9.cell? ⟨bp,offp+k,none⟩=some (.slice Ap q.length cp):=hE9.cell hcp;have HB9:=zh hB9;have HE9:=zh hE9;clear hs0 hs1 hs2 hcp hxk hB9 hE9;go_cut [49] (fun v wx=>v=.bool (zah ps t.toNat k)∧w9=wx)
      case first=>
       by_cases hkt:(k:Int)=t
       ·have hd:((k:Int)==t)=true:=by simp [hkt]
        have HD:Hid (zah ps t.toNat k=true):=by show _=_;rw [HKB.out,decide_eq_true hkt];rfl
        clear hkt;go_wp2;go_meet;exact ⟨by rw [HD.out],rfl⟩
       ·have hd:((k:Int)==t)=false:=by simp [hkt]
        have HD:Hid (zah ps t.toNat k=decide (0<q.length)):=by show _=_;rw [HKB.out,decide_eq_false hkt];rfl
        clear hkt;go_wp2;go_meet;refine ⟨?_,rfl⟩;rw [HD.out]
        all_goals (first | rfl | (congr 1;done) | (congr 1;rw [decide_eq_decide];omega))
      case rest=>
       obtain ⟨rfl,rfl⟩:=hcut;clear hcp9
       cases hkb:zah ps t.toNat k with
       | false=>
        have HK:=zh (keepTo_f hkb);clear hkb HKB;have hS':Hid (SubL w4 w9 g7 m ns vU (zai ps t.toNat (k+1))):=by obtain ⟨a,b,h⟩:=hS.out;rw [HK.out];exact ⟨a,b,h.more HE9.out⟩
        go_wp2;go_roundw
        case rel=>exact ⟨k+1,by omega,by go_num,hS'⟩
        case measure=>simp [intOf];omega
       | true=>
        have HK:=zh (keepTo_t hkb);clear hkb HKB
        go_wp2_with fail
        obtain ⟨vF,vT,hSI⟩:=hS.out;have hSI9:=zh (hSI.more HE9.out);clear hS hSI;have hkl:=keepTo_len ps t.toNat k;obtain ⟨us,hus,hnn,hue⟩:=hSI9.out.tk;have HUS:=zh hus;have HNN:=zh hnn;have HUE:=zh hue;clear hus hnn hue;obtain ⟨AT,nT,cT,rfl⟩:∃A n c,vT=.slice A n c:=by obtain ⟨A,c,e,-⟩:=Row.of_own HUS.out;exact ⟨A,_,c,e⟩
        obtain ⟨vs,hvs,hve⟩:=hSI9.out.fr;obtain ⟨AF,nF,cF,rfl⟩:∃A n c,vF=.slice A n c:=by obtain ⟨A,c,e,-⟩:=Row.of_own hvs;exact ⟨A,_,c,e⟩
        clear hvs hve vs;have b3:=Ext.rule (hSI9.out.box.cell (k:=3) rfl);have b5:=Ext.rule (hSI9.out.box.cell (k:=5) rfl);have q0:=Ext.rule (HB9.out.cell (k:=0) rfl);have q1:=Ext.rule (HB9.out.cell (k:=1) rfl);have q2:=Ext.rule (HB9.out.cell (k:=2) rfl);have HW9:=zh (HWK.out.trans HE9.out);have HX9:=zh (HXK4.out.trans HE9.out);refine wp_region_held_drew (S:=(fun _=>True)) (by kernel_rfl) (trivial) (fun zH=>?_);refine zaY [0,1,2,3,4,5,6,7,8,9,10,11,12,13,14] (fun e v W=>JA (V8 w4.heap.size g7 g9 (.slice AT nT cT) (.slice A1 tk.1.length c1) (.slice A2 tk.2.length c2) s tk.1 tk.2) D8 w9 [0,1,2,3,4,5,6,7,8,9,10,11] 12 13 14 (.pointer (some ⟨g7,5,none⟩)) (fun x W=>SubI w4 W g7 m.w m.h m.l m.up (.slice AF nF cF) vU (.slice AT nT cT) (.slice AF nF cF) x ((zai ps t.toNat k).map (m.free.getD · [])) (((zai ps t.toNat k).map (m.tasks.getD · ([],[])))++[tk]) (((zai ps t.toNat k).map (ns.getD · ⟨#[]⟩))++[s])) (fun W=>∃vT',SubI w4 W g7 m.w m.h m.l m.up (.slice AF nF cF) vU vT' (.slice AF nF cF) vT' ((zai ps t.toNat k).map (m.free.getD · [])) (((zai ps t.toNat k).map (m.tasks.getD · ([],[])))++[tk]) (((zai ps t.toNat k).map (ns.getD · ⟨#[]⟩))++[s])) e v W) (F:=?F9) (by kernel_rfl) (by kernel_rfl) (by decide) zH (fun v=>?hF9) ?init9 (by kernel_rfl) ?steps9 ?fin9
        case hF9=>(simp only [zK,zbp,List.getElem?_toArray,List.getElem?_cons_succ,List.getElem?_cons_zero,Option.bind,Act.put,List.setIfInBounds_toArray,List.set_cons_succ,List.set_cons_zero];rfl)
        case init9=>(intro e v he;exact JA.init (Ext.refl w9).drew (by decide) (fun j hj=>he j (by simp at hj⊢;omega)))
        case steps9=>
         refine zg.cons rfl (fun e v W K hJ hW he hd hK=>?_) ?_
         ·simp only [za] at hd hK⊢;have ha:=hJ.notA (j:=0) (by simp) he;have hxW:Ext w9 W:=hJ.g ha;go_simp;exact hK.out _ _ _ (by rfl) trivial (hJ.step (j:=0) (by simp) he V8.st (by decide) (by simp [D8]) (Ext.refl _) rfl)
         refine zg.cons rfl (fun e v W K hJ hW he hd hK=>?_) ?_
         ·simp only [za] at hd hK⊢;have ha:=hJ.notA (j:=1) (by simp) he;have hxW:Ext w9 W:=hJ.g ha;have hde:=zk hd [0] (by kernel_rfl);have v0:v 0=.pointer (some ⟨g7,5,none⟩):=hJ.gv ha 0 (by simp) (hde 0 (by simp));go_simp;exact hK.out _ _ _ (by simp [Act.put,v0]) trivial (hJ.step (j:=1) (by simp) he V8.st (by decide) (fun d hd'=>⟨by simp [D8] at hd'⊢;omega,hde d (by simp [D8] at hd'⊢;omega)⟩) (Ext.refl _) rfl)
         refine zg.cons rfl (fun e v W K hJ hW he hd hK=>?_) ?_
         ·simp only [za] at hd hK⊢;have ha:=hJ.notA (j:=2) (by simp) he;have hxW:Ext w9 W:=hJ.g ha;go_simp;exact hK.out _ _ _ (by rfl) trivial (hJ.step (j:=2) (by simp) he V8.st (by decide) (by simp [D8]) (Ext.refl _) rfl)
         refine zg.cons rfl (fun e v W K hJ hW he hd hK=>?_) ?_
         ·simp only [za] at hd hK⊢;have ha:=hJ.notA (j:=3) (by simp) he;have hxW:Ext w9 W:=hJ.g ha;have hde:=zk hd [2] (by kernel_rfl);have v2:v 2=.pointer (some ⟨g9,0,none⟩):=hJ.gv ha 2 (by simp) (hde 2 (by simp));go_simp;exact hK.out _ _ _ (by simp [Act.put,v2]) trivial (hJ.step (j:=3) (by simp) he V8.st (by decide) (fun d hd'=>⟨by simp [D8] at hd'⊢;omega,hde d (by simp [D8] at hd'⊢;omega)⟩) (Ext.refl _) rfl)
         refine zg.cons rfl (fun e v W K hJ hW he hd hK=>?_) ?_
         ·simp only [za] at hd hK⊢;have ha:=hJ.notA (j:=4) (by simp) he;have hxW:Ext w9 W:=hJ.g ha;go_simp;exact hK.out _ _ _ (by rfl) trivial (hJ.step (j:=4) (by simp) he V8.st (by decide) (by simp [D8]) (Ext.refl _) rfl)
         refine zg.cons rfl (fun e v W K hJ hW he hd hK=>?_) ?_
         ·simp only [za] at hd hK⊢;have ha:=hJ.notA (j:=5) (by simp) he;have hxW:Ext w9 W:=hJ.g ha;have hde:=zk hd [4] (by kernel_rfl);have v4:v 4=.pointer (some ⟨g9,1,none⟩):=hJ.gv ha 4 (by simp) (hde 4 (by simp));go_simp;exact hK.out _ _ _ (by simp [Act.put,v4]) trivial (hJ.step (j:=5) (by simp) he V8.st (by decide) (fun d hd'=>⟨by simp [D8] at hd'⊢;omega,hde d (by simp [D8] at hd'⊢;omega)⟩) (Ext.refl _) rfl)
         refine zg.cons rfl (fun e v W K hJ hW he hd hK=>?_) ?_
         ·simp only [za] at hd hK⊢;have ha:=hJ.notA (j:=6) (by simp) he;have hxW:Ext w9 W:=hJ.g ha;have hde:=zk hd [5] (by kernel_rfl);have v5:v 5=.slice A1 tk.1.length c1:=hJ.gv ha 5 (by simp) (hde 5 (by simp));go_simp;go_at_call 46;refine (zaN W (HI1.out.below (HE9.out.trans hxW)) (by omega)).mono ?_;rintro e9 wn ⟨vn,rfl,hMn⟩;go_simp;exact hK.out _ _ _ (by simp [Act.put,v5]) trivial (hJ.step (j:=6) (by simp) he V8.st (by decide) (fun d hd'=>⟨by simp [D8] at hd'⊢;omega,hde d (by simp [D8] at hd'⊢;omega)⟩) hMn.ext (hMn.own.mono (Below.size (HX9.out.trans hxW))))
         refine zg.cons rfl (fun e v W K hJ hW he hd hK=>?_) ?_
         ·simp only [za] at hd hK⊢;have ha:=hJ.notA (j:=7) (by simp) he;have hxW:Ext w9 W:=hJ.g ha;go_simp;exact hK.out _ _ _ (by rfl) trivial (hJ.step (j:=7) (by simp) he V8.st (by decide) (by simp [D8]) (Ext.refl _) rfl)
         refine zg.cons rfl (fun e v W K hJ hW he hd hK=>?_) ?_
         ·simp only [za] at hd hK⊢;have ha:=hJ.notA (j:=8) (by simp) he;have hxW:Ext w9 W:=hJ.g ha;have hde:=zk hd [7] (by kernel_rfl);have v7:v 7=.pointer (some ⟨g9,2,none⟩):=hJ.gv ha 7 (by simp) (hde 7 (by simp));go_simp;exact hK.out _ _ _ (by simp [Act.put,v7]) trivial (hJ.step (j:=8) (by simp) he V8.st (by decide) (fun d hd'=>⟨by simp [D8] at hd'⊢;omega,hde d (by simp [D8] at hd'⊢;omega)⟩) (Ext.refl _) rfl)
         refine zg.cons rfl (fun e v W K hJ hW he hd hK=>?_) ?_
         ·simp only [za] at hd hK⊢;have ha:=hJ.notA (j:=9) (by simp) he;have hxW:Ext w9 W:=hJ.g ha;have hde:=zk hd [8,6] (by kernel_rfl);have v8:v 8=.slice A2 tk.2.length c2:=hJ.gv ha 8 (by simp) (hde 8 (by simp));go_simp;go_at_call 46;refine (zaN W (HI2.out.below (HE9.out.trans hxW)) (by omega)).mono ?_;rintro e9 wn ⟨vn,rfl,hMn⟩;go_simp;exact hK.out _ _ _ (by simp [Act.put,v8]) trivial (hJ.step (j:=9) (by simp) he V8.st (by decide) (fun d hd'=>⟨by simp [D8] at hd'⊢;omega,hde d (by simp [D8] at hd'⊢;omega)⟩) hMn.ext (hMn.own.mono (Below.size (HX9.out.trans hxW))))
         refine zg.cons rfl (fun e v W K hJ hW he hd hK=>?_) ?_
         ·simp only [za] at hd hK⊢;have ha:=hJ.notA (j:=10) (by simp) he;have hxW:Ext w9 W:=hJ.g ha;have hde:=zk hd [3,6,9] (by kernel_rfl);have v3:v 3=.string s:=hJ.gv ha 3 (by simp) (hde 3 (by simp));have o6:zy W w4.heap.size (v 6) tk.1:=hJ.gv ha 6 (by simp) (hde 6 (by simp));have o9:zy W w4.heap.size (v 9) tk.2:=hJ.gv ha 9 (by simp) (hde 9 (by simp));obtain ⟨B6,d6,v6,-⟩:=za6 o6;obtain ⟨B9,d9,v9,-⟩:=za6 o9;rw [v6] at o6;rw [v9] at o9;go_simp;exact hK.out _ _ _ (by simp [Act.put,v3,v6,v9]) trivial (hJ.step (j:=10) (by simp) he V8.st (by decide) (fun d hd'=>⟨by simp [D8] at hd'⊢;omega,hde d (by simp [D8] at hd'⊢;omega)⟩) (Ext.refl _) ⟨_,_,rfl,o6,o9⟩)
         refine zg.cons rfl (fun e v W K hJ hW he hd hK=>?_) ?_
         ·simp only [za] at hd hK⊢;have ha:=hJ.notA (j:=11) (by simp) he;have hxW:Ext w9 W:=hJ.g ha;have hde:=zk hd [10] (by kernel_rfl);obtain ⟨y1,y2,v10,o6,o9⟩:=(show ∃y1 y2,v 10=.agg #[.string s,y1,y2]∧zy W w4.heap.size y1 tk.1∧zy W w4.heap.size y2 tk.2 from hJ.gv ha 10 (by simp) (hde 10 (by simp)));go_simp;exact hK.out _ _ _ (by simp [Act.put,v10]) trivial (hJ.step (j:=11) (by simp) he V8.st (by decide) (fun d hd'=>⟨by simp [D8] at hd'⊢;omega,hde d (by simp [D8] at hd'⊢;omega)⟩) ((Ext.refl W).alloc _) ⟨W.heap.size,y1,y2,rfl,Blk.new _ _ _ rfl,zaD o6 ((Ext.refl W).alloc _),zaD o9 ((Ext.refl W).alloc _)⟩)
         refine zg.cons rfl (fun e v W K hJ hW he hd hK=>?_) ?_
         ·simp only [za] at hd hK⊢;have hde:=zk hd [1,11] (by kernel_rfl);have hxW:Ext w9 W:=hJ.g he;have v1:v 1=.slice AT nT cT:=hJ.gv he 1 (by simp) (hde 1 (by simp));obtain ⟨g,y1,y2,v11,hbk,o6,o9⟩:=(show ∃g y1 y2,v 11=.slice (some ⟨g,0,none⟩) 1 1∧Blk W g 56 #[.string s,y1,y2]∧zy W w4.heap.size y1 tk.1∧zy W w4.heap.size y2 tk.2 from hJ.gv he 11 (by simp) (hde 11 (by simp)));have e1:=hde 1 (by simp);have e11:=hde 11 (by simp);have e0:=(hJ.c 1 (by simp) e1 0 (by simp [D8])).2;have e10:=(hJ.c 11 (by simp) e11 10 (by simp [D8])).2;have e3:=(hJ.c 10 (by simp) e10 3 (by simp [D8])).2;have e6:=(hJ.c 10 (by simp) e10 6 (by simp [D8])).2;have e9:=(hJ.c 10 (by simp) e10 9 (by simp [D8])).2;have e2:=(hJ.c 3 (by simp) e3 2 (by simp [D8])).2;have e5:=(hJ.c 6 (by simp) e6 5 (by simp [D8])).2;have e4:=(hJ.c 5 (by simp) e5 4 (by simp [D8])).2;have e8:=(hJ.c 9 (by simp) e9 8 (by simp [D8])).2;have e7:=(hJ.c 8 (by simp) e8 7 (by simp [D8])).2;have hall:∀j∈[0,1,2,3,4,5,6,7,8,9,10,11],e j=true:=fun j hj=>by simp at hj;rcases hj with rfl | rfl | rfl | rfl | rfl | rfl | rfl | rfl | rfl | rfl | rfl | rfl <;> assumption
          rw [if_pos (by simp [Region.wanted])];have hown1:W.ownsRow w4.heap.size 56 3 (v 1) ((zai ps t.toNat k).map (m.tasks.getD · ([],[]))).length us:=by rw [v1];exact zaD HUS.out hxW
          have hrow1:Row W (fun _=>True) 3 (v 11) 1 [.string s,y1,y2]:=by rw [v11];exact row1 hbk rfl
          refine zbO (ok:=fun _=>True) W (.tmp 51) (.tmp 61) eTask rfl w4.heap.size ((zai ps t.toNat k).map (m.tasks.getD · ([],[]))).length 1 us [.string s,y1,y2] (v 1) (v 11) rfl rfl hown1 hrow1 (fun u hu=>by simp at hu;rcases hu with rfl | rfl | rfl;rfl;exact zcL (Row.of_own o6:zf W _ _ tk.1);exact zcL (Row.of_own o9:zf W _ _ tk.2)) (Below.size (HX9.out.trans hxW)) (by rw [List.length_map];unfold maxLen;omega) (by rw [List.length_map];omega) ?_;intro x w' ho hg _;exact hK.out _ _ _ (by simp [Act.put]) trivial (hJ.app he (by decide) (by decide) hall ((hSI9.out.more hxW).addT (fun i x s hx hs=>by obtain ⟨a,b,q0,q1,q2,i1,i2⟩:=HUE.out i x s hx hs;exact ⟨a,b,q0,q1,q2,zaD i1 hxW,zaD i2 hxW⟩) HNN.out HUS.out.1 (zaD HUS.out hxW) o6 o9 ho (by rw [v1] at hg;exact hg)))
         refine zg.cons rfl (fun e v W K hJ hW he hd hK=>?_) ?_
         ·simp only [za] at hd hK⊢;have hde:=zk hd [12] (by kernel_rfl);go_simp;exact hK.out _ _ _ (by rfl) trivial (hJ.addr (by decide) (by decide) rfl)
         refine zg.cons rfl (fun e v W K hJ hW he hd hK=>?_) ?_
         ·simp only [za] at hd hK⊢;have hde:=zk hd [13,12] (by kernel_rfl);have ha:=hde 12 (by simp);have v13:=hJ.f (hde 13 (by simp));have hm:=hJ.m ha he;have c5:=hm.box.cell (k:=5) rfl;have hf:=hm.box.frozen 5;obtain ⟨A12,n12,c12,hv12⟩:∃A n c,v 12=.slice A n c:=by obtain ⟨_,ho,-,-⟩:=hm.tk;obtain ⟨A,c,e,-⟩:=Row.of_own ho;exact ⟨A,_,c,e⟩
          rw [hv12] at hm;go_simp;exact hK.out _ undef _ (by simp [Act.put,v13,hv12]) trivial (hJ.store (by decide) (by decide) ha ⟨_,hm.sto rfl⟩)
         exact zg.nil
        case fin9=>
         intro v W5 hJ _;obtain ⟨vT',hT⟩:=(hJ.s rfl).2;have hT5:=zh hT;clear hJ hT;obtain ⟨vs,hvs,hve⟩:=hT5.out.fr;have HVS:=zh hvs;have HVE:=zh hve;clear hvs hve b3 b5 q0 q1 q2;have hkf:k<m.free.length:=by rw [G.out.fl];exact hlt
         obtain ⟨bf,offf,uf,rfl,_,hcf0,huf⟩:=(show ∃b off u,Af=some ⟨b,off,none⟩∧okm b∧w.cell? ⟨b,off+k,none⟩=some u∧zaQ w okm u m.free[k] from by obtain ⟨vsf,⟨A0,c0,e,_,hrf⟩,hef2⟩:=HMF.out;injection e with e1 e2 e3;subst e1;exact zP hrf hef2 hkf hkf);have hfl300:(m.free[k]).length≤300:=by have:=G.out.fn _ (List.getElem_mem hkf);have:=G.out.dim.n1;unfold MZ.n at *;omega
         have hgf:m.free.getD k []=m.free[k]:=by rw [List.getD_eq_getElem?_getD,List.getElem?_eq_getElem hkf];rfl
         have HGF:=zh hgf;clear hgf;obtain ⟨fk,hfk⟩:∃fk,fk=m.free[k]:=⟨_,rfl⟩;rw [←hfk] at huf hfl300 HGF;clear hfk;have HUF:=zh huf;obtain ⟨Ab,cb,rfl,-,-⟩:=huf;have hx45:Ext w4 W5:=hT5.out.ext;have HX45:=zh hx45;have HW5:=zh (HEW4.out.trans hx45);have j3:∀W,Ext W5 W→W.cell? ⟨gm,3,none⟩=some (.slice (some ⟨bf,offf,none⟩) m.free.length cf):=fun W h=>k3 W (HX45.out.trans h)
         have j6:=Ext.rule (HW5.out.cell hcf0);have b3:=Ext.rule (hT5.out.box.cell (k:=3) rfl);clear hcf0 hx45;have hkf1:(k:Int)<(m.free.length:Int):=by omega
         have hkf0:(0:Int)≤(k:Int):=by omega
         go_wp2_with fail
         refine wp_region_held_drew (S:=(fun _=>True)) (by kernel_rfl) (trivial) (fun zH=>?_);refine zaY [0,1,2,3,4,5,6,7,8,9,10,11] (fun e v W=>JA (V9 w4.heap.size g7 gm (.slice AF nF cF) (.slice (some ⟨bf,offf,none⟩) m.free.length cf) k ⟨bf,offf+k,none⟩ (.slice Ab fk.length cb) fk) D9 W5 [0,1,2,3,4,5,6,7,8] 9 10 11 (.pointer (some ⟨g7,3,none⟩)) (fun x W=>SubI w4 W g7 m.w m.h m.l m.up (.slice AF nF cF) vU vT' x vT' (((zai ps t.toNat k).map (m.free.getD · []))++[fk]) (((zai ps t.toNat k).map (m.tasks.getD · ([],[])))++[tk]) (((zai ps t.toNat k).map (ns.getD · ⟨#[]⟩))++[s])) (fun W=>∃vF',SubI w4 W g7 m.w m.h m.l m.up vF' vU vT' vF' vT' (((zai ps t.toNat k).map (m.free.getD · []))++[fk]) (((zai ps t.toNat k).map (m.tasks.getD · ([],[])))++[tk]) (((zai ps t.toNat k).map (ns.getD · ⟨#[]⟩))++[s])) e v W) (F:=?F10) (by kernel_rfl) (by kernel_rfl) (by decide) zH (fun v=>?hF10) ?init10 (by kernel_rfl) ?steps10 ?fin10
         case hF10=>(simp only [zK,zbp,List.getElem?_toArray,List.getElem?_cons_succ,List.getElem?_cons_zero,Option.bind,Act.put,List.setIfInBounds_toArray,List.set_cons_succ,List.set_cons_zero];rfl)
         case init10=>(intro e v he;exact JA.init (Ext.refl W5).drew (by decide) (fun j hj=>he j (by simp at hj⊢;omega)))
         case steps10=>
          refine zg.cons rfl (fun e v W K hJ hW he hd hK=>?_) ?_
          ·simp only [za] at hd hK⊢;have ha:=hJ.notA (j:=0) (by simp) he;have hxW:Ext W5 W:=hJ.g ha;go_simp;exact hK.out _ _ _ (by rfl) trivial (hJ.step (j:=0) (by simp) he V9.st (by decide) (by simp [D9]) (Ext.refl _) rfl)
          refine zg.cons rfl (fun e v W K hJ hW he hd hK=>?_) ?_
          ·simp only [za] at hd hK⊢;have ha:=hJ.notA (j:=1) (by simp) he;have hxW:Ext W5 W:=hJ.g ha;have hde:=zk hd [0] (by kernel_rfl);have v0:v 0=.pointer (some ⟨g7,3,none⟩):=hJ.gv ha 0 (by simp) (hde 0 (by simp));go_simp;exact hK.out _ _ _ (by simp [Act.put,v0]) trivial (hJ.step (j:=1) (by simp) he V9.st (by decide) (fun d hd'=>⟨by simp [D9] at hd'⊢;omega,hde d (by simp [D9] at hd'⊢;omega)⟩) (Ext.refl _) rfl)
          refine zg.cons rfl (fun e v W K hJ hW he hd hK=>?_) ?_
          ·simp only [za] at hd hK⊢;have ha:=hJ.notA (j:=2) (by simp) he;have hxW:Ext W5 W:=hJ.g ha;go_simp;exact hK.out _ _ _ (by rfl) trivial (hJ.step (j:=2) (by simp) he V9.st (by decide) (by simp [D9]) (Ext.refl _) rfl)
          refine zg.cons rfl (fun e v W K hJ hW he hd hK=>?_) ?_
          ·simp only [za] at hd hK⊢;have ha:=hJ.notA (j:=3) (by simp) he;have hxW:Ext W5 W:=hJ.g ha;have hde:=zk hd [2] (by kernel_rfl);have v2:v 2=.pointer (some ⟨gm,3,none⟩):=hJ.gv ha 2 (by simp) (hde 2 (by simp));go_simp;exact hK.out _ _ _ (by simp [Act.put,v2]) trivial (hJ.step (j:=3) (by simp) he V9.st (by decide) (fun d hd'=>⟨by simp [D9] at hd'⊢;omega,hde d (by simp [D9] at hd'⊢;omega)⟩) (Ext.refl _) rfl)
          refine zg.cons rfl (fun e v W K hJ hW he hd hK=>?_) ?_
          ·simp only [za] at hd hK⊢;have ha:=hJ.notA (j:=4) (by simp) he;have hxW:Ext W5 W:=hJ.g ha;go_simp;exact hK.out _ _ _ (by rfl) trivial (hJ.step (j:=4) (by simp) he V9.st (by decide) (by simp [D9]) (Ext.refl _) rfl)
          refine zg.cons rfl (fun e v W K hJ hW he hd hK=>?_) ?_
          ·simp only [za] at hd hK⊢;have ha:=hJ.notA (j:=5) (by simp) he;have hxW:Ext W5 W:=hJ.g ha;have hde:=zk hd [3,4] (by kernel_rfl);have v3:v 3=.slice (some ⟨bf,offf,none⟩) m.free.length cf:=hJ.gv ha 3 (by simp) (hde 3 (by simp));have v4:v 4=.int .i64 k:=hJ.gv ha 4 (by simp) (hde 4 (by simp));go_simp;exact hK.out _ _ _ (by simp [Act.put,v3,v4]) trivial (hJ.step (j:=5) (by simp) he V9.st (by decide) (fun d hd'=>⟨by simp [D9] at hd'⊢;omega,hde d (by simp [D9] at hd'⊢;omega)⟩) (Ext.refl _) rfl)
          refine zg.cons rfl (fun e v W K hJ hW he hd hK=>?_) ?_
          ·simp only [za] at hd hK⊢;have ha:=hJ.notA (j:=6) (by simp) he;have hxW:Ext W5 W:=hJ.g ha;have hde:=zk hd [5] (by kernel_rfl);have v5:v 5=.pointer (some ⟨bf,offf+k,none⟩):=hJ.gv ha 5 (by simp) (hde 5 (by simp));go_simp;exact hK.out _ _ _ (by simp [Act.put,v5]) trivial (hJ.step (j:=6) (by simp) he V9.st (by decide) (fun d hd'=>⟨by simp [D9] at hd'⊢;omega,hde d (by simp [D9] at hd'⊢;omega)⟩) (Ext.refl _) rfl)
          refine zg.cons rfl (fun e v W K hJ hW he hd hK=>?_) ?_
          ·simp only [za] at hd hK⊢;have ha:=hJ.notA (j:=7) (by simp) he;have hxW:Ext W5 W:=hJ.g ha;have hde:=zk hd [6] (by kernel_rfl);have v6:v 6=.slice Ab fk.length cb:=hJ.gv ha 6 (by simp) (hde 6 (by simp));go_simp;go_at_call 45;refine (zcE W (HUF.out.below (HW5.out.trans hxW)) (by omega)).mono ?_;rintro e9 wn ⟨vn,rfl,hEn,hOn⟩;go_simp;exact hK.out _ _ _ (by simp [Act.put,v6]) trivial (hJ.step (j:=7) (by simp) he V9.st (by decide) (fun d hd'=>⟨by simp [D9] at hd'⊢;omega,hde d (by simp [D9] at hd'⊢;omega)⟩) hEn (hOn.mono (Below.size (HX45.out.trans hxW))))
          refine zg.cons rfl (fun e v W K hJ hW he hd hK=>?_) ?_
          ·simp only [za] at hd hK⊢;have ha:=hJ.notA (j:=8) (by simp) he;have hxW:Ext W5 W:=hJ.g ha;have hde:=zk hd [7] (by kernel_rfl);have o7:zb2 W w4.heap.size (v 7) fk:=hJ.gv ha 7 (by simp) (hde 7 (by simp));obtain ⟨B7,n7,d7,v7⟩:∃A n c,v 7=.slice A n c:=by obtain ⟨A,c,e,-⟩:=Row.of_own o7;exact ⟨A,_,c,e⟩
           rw [v7] at o7;go_simp;exact hK.out _ _ _ (by simp [Act.put,v7]) trivial (hJ.step (j:=8) (by simp) he V9.st (by decide) (fun d hd'=>⟨by simp [D9] at hd'⊢;omega,hde d (by simp [D9] at hd'⊢;omega)⟩) ((Ext.refl W).alloc _) ⟨W.heap.size,_,rfl,Blk.new _ _ _ rfl,zaD o7 ((Ext.refl W).alloc _)⟩)
          refine zg.cons rfl (fun e v W K hJ hW he hd hK=>?_) ?_
          ·simp only [za] at hd hK⊢;have hde:=zk hd [1,8] (by kernel_rfl);have hxW:Ext W5 W:=hJ.g he;have v1:v 1=.slice AF nF cF:=hJ.gv he 1 (by simp) (hde 1 (by simp));obtain ⟨g,y,v8,hbk,o7⟩:=(show ∃g y,v 8=.slice (some ⟨g,0,none⟩) 1 1∧Blk W g 29 #[y]∧zb2 W w4.heap.size y fk from hJ.gv he 8 (by simp) (hde 8 (by simp)));have e1:=hde 1 (by simp);have e8:=hde 8 (by simp);have e0:=(hJ.c 1 (by simp) e1 0 (by simp [D9])).2;have e7:=(hJ.c 8 (by simp) e8 7 (by simp [D9])).2;have e6:=(hJ.c 7 (by simp) e7 6 (by simp [D9])).2;have e5:=(hJ.c 6 (by simp) e6 5 (by simp [D9])).2;have e3:=(hJ.c 5 (by simp) e5 3 (by simp [D9])).2;have e4:=(hJ.c 5 (by simp) e5 4 (by simp [D9])).2;have e2:=(hJ.c 3 (by simp) e3 2 (by simp [D9])).2;have hall:∀j∈[0,1,2,3,4,5,6,7,8],e j=true:=fun j hj=>by simp at hj;rcases hj with rfl | rfl | rfl | rfl | rfl | rfl | rfl | rfl | rfl <;> assumption
           rw [if_pos (by simp [Region.wanted])];have hown1:W.ownsRow w4.heap.size 29 1 (v 1) ((zai ps t.toNat k).map (m.free.getD · [])).length vs:=by rw [v1];exact zaD HVS.out hxW
           have hrow1:Row W (fun _=>True) 1 (v 8) 1 [y]:=by rw [v8];exact row1 hbk rfl
           refine zbO (ok:=fun _=>True) W (.tmp 65) (.tmp 72) eBools rfl w4.heap.size ((zai ps t.toNat k).map (m.free.getD · [])).length 1 vs [y] (v 1) (v 8) rfl rfl hown1 hrow1 (fun u hu=>by simp at hu;subst hu;obtain ⟨A,c,e,-⟩:=Row.of_own o7;rw [e];rfl) (Below.size (HX45.out.trans hxW)) (by rw [List.length_map];unfold maxLen;omega) (by rw [List.length_map];omega) ?_;intro x w' ho hg _;exact hK.out _ _ _ (by simp [Act.put]) trivial (hJ.app he (by decide) (by decide) hall ((hT5.out.more hxW).addF (fun i x hx=>by obtain ⟨a,q0,i1⟩:=HVE.out i x hx;exact ⟨a,q0,zaD i1 hxW⟩) (by have:=HVS.out.1;omega) (zaD HVS.out hxW) o7 ho (by rw [v1] at hg;exact hg)))
          refine zg.cons rfl (fun e v W K hJ hW he hd hK=>?_) ?_
          ·simp only [za] at hd hK⊢;have hde:=zk hd [9] (by kernel_rfl);go_simp;exact hK.out _ _ _ (by rfl) trivial (hJ.addr (by decide) (by decide) rfl)
          refine zg.cons rfl (fun e v W K hJ hW he hd hK=>?_) ?_
          ·simp only [za] at hd hK⊢;have hde:=zk hd [10,9] (by kernel_rfl);have ha:=hde 9 (by simp);have v10:=hJ.f (hde 10 (by simp));have hm:=hJ.m ha he;have c3:=hm.box.cell (k:=3) rfl;have hf:=hm.box.frozen 3;obtain ⟨A9,n9,c9,hv9⟩:∃A n c,v 9=.slice A n c:=by obtain ⟨_,ho,-⟩:=hm.fr;obtain ⟨A,c,e,-⟩:=Row.of_own ho;exact ⟨A,_,c,e⟩
           rw [hv9] at hm;go_simp;exact hK.out _ undef _ (by simp [Act.put,v10,hv9]) trivial (hJ.store (by decide) (by decide) ha ⟨_,hm.sto rfl⟩)
          exact zg.nil
         case fin10=>
          intro v W6 hJ _;obtain ⟨vF',hF⟩:=(hJ.s rfl).2;have hS':Hid (SubL w4 W6 g7 m ns vU (zai ps t.toNat (k+1))):=⟨vF',vT',by rw [HK.out,map_snoc',map_snoc',map_snoc',HGF.out,HGT.out,←HSS.out];exact hF⟩;clear hJ hF j3 j6 b3 hkf1 hkf0;go_wp2;go_roundw
          case rel=>exact ⟨k+1,by omega,by go_num,hS'⟩
          case measure=>simp [intOf];omega
     ·have hke:k=m.tasks.length:=by omega
      subst hke;obtain ⟨vF,vT,hSI⟩:=hS.out;have hkk:zai ps t.toNat m.tasks.length=zat ps t.toNat:=by unfold zai zat;rw [HPL.out]
      rw [hkk] at hSI;have hMM:=zh hSI.maze;obtain ⟨vs,hvs,-⟩:=hSI.fr;obtain ⟨us,hus,-⟩:=hSI.tk;obtain ⟨AF,nF,cF,rfl⟩:∃A n c,vF=.slice A n c:=by obtain ⟨A,c,e,-⟩:=Row.of_own hvs;exact ⟨A,_,c,e⟩
      obtain ⟨AT,nT,cT,rfl⟩:∃A n c,vT=.slice A n c:=by obtain ⟨A,c,e,-⟩:=Row.of_own hus;exact ⟨A,_,c,e⟩
      obtain ⟨AU,nU,cU,rfl⟩:∃A n c,vU=.slice A n c:=by obtain ⟨A,c,e,-⟩:=Row.of_own hSI.up;exact ⟨A,_,c,e⟩
      have HSI:=zh hSI;have hBZ:Blk wk gz 32 #[.int .i64 0,.int .i64 0,.int .i64 0,.slice none 0 0,.slice none 0 0,.slice none 0 0]:=HZ.out.ext (HX4.out.trans hSI.ext);have z0:wk.cell? ⟨gz,0,none⟩=some (.int .i64 0):=hBZ.cell (k:=0) rfl;have z1:wk.cell? ⟨gz,1,none⟩=some (.int .i64 0):=hBZ.cell (k:=1) rfl;have z2:wk.cell? ⟨gz,2,none⟩=some (.int .i64 0):=hBZ.cell (k:=2) rfl;have z3:wk.cell? ⟨gz,3,none⟩=some (.slice none 0 0):=hBZ.cell (k:=3) rfl;have z4:wk.cell? ⟨gz,4,none⟩=some (.slice none 0 0):=hBZ.cell (k:=4) rfl;have z5:wk.cell? ⟨gz,5,none⟩=some (.slice none 0 0):=hBZ.cell (k:=5) rfl;have hfz:∀j,wk.frozen? ⟨gz,j,none⟩=false:=fun j=>hBZ.frozen j
      have m0:wk.cell? ⟨g7,0,none⟩=some (.int .i64 m.w):=hSI.box.cell (k:=0) rfl;have m1:wk.cell? ⟨g7,1,none⟩=some (.int .i64 m.h):=hSI.box.cell (k:=1) rfl;have m2:wk.cell? ⟨g7,2,none⟩=some (.int .i64 m.l):=hSI.box.cell (k:=2) rfl;have m3:wk.cell? ⟨g7,3,none⟩=some (.slice AF nF cF):=hSI.box.cell (k:=3) rfl;have m4:wk.cell? ⟨g7,4,none⟩=some (.slice AU nU cU):=hSI.box.cell (k:=4) rfl;have m5:wk.cell? ⟨g7,5,none⟩=some (.slice AT nT cT):=hSI.box.cell (k:=5) rfl;have HBZ:=zh hBZ;clear hBZ hSI hvs hus hlt hk hxk hS hkk
      go_wp2_with fail
      refine zc4 (P:=fun W=>bodyPost Tryz.prog Tryz.f15 _ Exit.ret _ W) (g2:=gz) ?_ HBZ.out;intro WZ hbz hEb hk;have y0:WZ.cell? ⟨gz,0,none⟩=some (.int .i64 m.w):=hbz.cell (k:=0) rfl;have y1:WZ.cell? ⟨gz,1,none⟩=some (.int .i64 m.h):=hbz.cell (k:=1) rfl;have y2:WZ.cell? ⟨gz,2,none⟩=some (.int .i64 m.l):=hbz.cell (k:=2) rfl;have y3:WZ.cell? ⟨gz,3,none⟩=some (.slice AF nF cF):=hbz.cell (k:=3) rfl;have y4:WZ.cell? ⟨gz,4,none⟩=some (.slice AU nU cU):=hbz.cell (k:=4) rfl;have y5:WZ.cell? ⟨gz,5,none⟩=some (.slice AT nT cT):=hbz.cell (k:=5) rfl;refine bodyPost_ret (v:=.agg #[.int .i64 m.w,.int .i64 m.h,.int .i64 m.l,.slice AF nF cF,.slice AU nU cU,.slice AT nT cT]) (by simp [results,Tryz.results15,go_sem,y0,y1,y2,y3,y4,y5]) rfl ⟨_,rfl,Below.trans HWK.out (hEb.mono (by have:=HSZ.out.1;omega)),?_⟩;rw [HO.out.1,HO.out.2];have h4:=HEW4.out.size;exact hMM.out.keepW (fun b hb hlt=>hk b hlt (by have:=HSZ.out.2;have:=HX4.out.size;omega)) (fun b hb=>by omega)
end Go.Proofs.YthbjngbhbbkkgaaGreat
