/- RtVc RtVj RtWa RtVm RtWq RtWb -/
import Derived.Test.YthbjngbhbbkkgaaGreatHUa
import Derived.Test.YthbjngbhbbkkgaaGreatHUb
import Derived.Test.YthbjngbhbbkkgaaGreatHUc
import Derived.Test.YthbjngbhbbkkgaaGreatHUd
import Derived.Test.YthbjngbhbbkkgaaGreatHUe
import Derived.Test.YthbjngbhbbkkgaaGreatHUf
import Derived.Test.YthbjngbhbbkkgaaGreatHUg
import Derived.Test.YthbjngbhbbkkgaaGreatHUh
import Derived.Test.YthbjngbhbbkkgaaGreatHUi
import Derived.Test.YthbjngbhbbkkgaaGreatHUj
import Derived.Test.YthbjngbhbbkkgaaGreatHUk
import Derived.Test.YthbjngbhbbkkgaaGreatHUl
import Derived.ArgAppend
set_option linter.unusedVariables false
set_option linter.unusedSimpArgs false
set_option maxRecDepth 100000
set_option maxHeartbeats 16000000
namespace Go.Proofs.YthbjngbhbbkkgaaGreat
open Go.RowKit
inductive PT where
 | node (task:Int) (side:List Int) (kids:List PT)
def PT.task:PT→Int | .node t _ _=>t
def PT.side:PT→List Int | .node _ s _=>s
def PT.kids:PT→List PT | .node _ _ k=>k
def PT.zero:PT:=.node 0 [] []
def ownM (m:MZ) (k:Nat):MZ:=⟨m.w,m.h,m.l,[m.free.getD k []],m.up,[m.tasks.getD k ([],[])]⟩
def laidK (m:MZ) (ps:List (List Int)) (k:Nat):Bool:=decide (ps.getD k []=[]) || zZ (ownM m k) [ps.getD k []]
def zau (m:MZ) (ps:List (List Int)):Bool:=decide (chk m=0) && (decide (ps.length=m.tasks.length) && ((List.range ps.length).all (laidK m ps) && decide ps.flatten.Nodup))
def zah (ps:List (List Int)) (t k:Nat):Bool:=decide (k=t) || decide (ps.getD k []≠[])
def zat (ps:List (List Int)) (t:Nat):List Nat:=(List.range ps.length).filter (zah ps t)
def zay (m:MZ) (ps:List (List Int)) (t:Nat):MZ:=⟨m.w,m.h,m.l,(zat ps t).map (m.free.getD · []),m.up,(zat ps t).map (m.tasks.getD · ([],[]))⟩
def zeroM:MZ:=⟨0,0,0,[],[],[]⟩
def subO (m:MZ) (ps:List (List Int)) (t:Int):MZ:=if (zau m ps && zar m t)=true then zay m ps t.toNat else zeroM
def zD:Nat→List Int→List (List Int)
 | 0,_=>[[]]
 | _+1,[]=>[]
 | k+1,x :: l=>(zD k l).map (x :: ·)++zD (k+1) l
def zav (l:List Int):List (List Int):=(List.range (l.length+1)).flatMap fun k=>zD k l
def zaV (ps:List (List Int)):List Int:=((List.range ps.length).filter fun k=>decide (ps.getD k []≠[])).map Int.ofNat
def zba (ps:List (List Int)) (set:List Int):List (List Int):=set.foldl (fun o k=>o.set k.toNat []) ps
def pushL (m:MZ):List Int→List (List Int)→Option (List (List Int))
 | [],o=>some o
 | k :: l,o=>match za9 m k o with
  | none=>none
  | some p=>pushL m l (o.set k.toNat p)
def zbW (m:MZ) (ps:List (List Int)) (t:Int) (set:List Int):Option (List (List Int)):=pushL m (t :: set) (zba ps set)
def endB (m:MZ) (pp:List (List Int)) (t:Nat):Bool:=match (pp.getD t []).getLast? with
 | none=>false
 | some x=>decide (x∈(m.tasks.getD t ([],[])).2)
def curF (m:MZ) (pp:List (List Int)):Nat→Nat→Nat
 | 0,t=>t
 | f+1,t=>if t<pp.length∧endB m pp t=true then curF m pp f (t+1) else t
def zO (m:MZ) (ch:List Int):Nat:=curF m (zn m ch) (zn m ch).length 0
def zao (m:MZ) (ch:List Int) (t:Nat):List Int:=if t<(zn m ch).length then ((zn m ch).getD t []).getLast?.toList else (m.tasks.getD t ([],[])).1.filter fun n=>ze m t n && !decide (n∈ch)
noncomputable def zb6 (m:MZ) (ch:List Int) (t:Nat):List Int:=zcr m t (zao m ch t) ch
noncomputable def offB (m:MZ) (ch:List Int) (t:Nat):Bool:=!((zb6 m ch t).any fun n=>decide (n∈(m.tasks.getD t ([],[])).2)) && (decide (zb6 m ch t≠[]) || decide (zO m ch<t))
noncomputable def cutT (m:MZ) (ch:List Int):Option Nat:=((List.range (m.tasks.length - zO m ch)).map (zO m ch+·)).find? (offB m ch)
def zV (f:Int→Nat→Int×PT×Nat):List Int→Nat→List PT→Int×List PT×Nat
 | [],k,acc=>(0,acc,k)
 | n :: l,k,acc=>if (f n k).1=0 then zV f l (f n k).2.2 (acc++[(f n k).2.1]) else ((f n k).1,[],(f n k).2.2)
noncomputable def zq (m:MZ):Nat→List Int→Nat→Int×PT×Nat
 | 0,_,k=>(53,.zero,k)
 | f+1,ch,k=>
  if m.tasks.length≤zO m ch then (51,.zero,k)
  else if 3000<k+1 then (53,.zero,k+1)
  else match cutT m ch with
   | some t=>(0,.node t (zb6 m ch t) [],k+1)
   | none=>
    let r:=zV (fun n k=>zq m f (ch++[n]) k) (zM m ch) (k+1) []
    if r.1=0 then (0,.node (zO m ch) [] r.2.1,r.2.2) else (r.1,.zero,r.2.2)
noncomputable def zbi (m:MZ):Int×PT:=if chk m=0 then ((zq m (m.n.toNat+2) [] 0).1,(zq m (m.n.toNat+2) [] 0).2.1) else (chk m,.zero)
mutual
def PT.size:PT→Nat
 | .node _ _ ks=>1+PT.sizeL ks
def PT.sizeL:List PT→Nat
 | []=>0
 | k :: ks=>k.size+PT.sizeL ks
end
def incB (N:Int):Int→List Int→Bool
 | _,[]=>true
 | b,x :: l=>decide (b<x) && (decide (x<N) && incB N x l)
def wallB (m:MZ) (ch:List Int) (t:Nat) (s:List Int):Bool:=s.all fun n=>(zap m n).all fun k=>!(ze m t k && !decide (k∈ch)) || decide (k∈s)
def cutB (m:MZ) (ch:List Int) (t:Int) (s:List Int) (nk:Nat):Bool:=
 if t<zO m ch∨(m.tasks.length:Int)≤t∨(t=zO m ch∧s=[])∨nk≠0 then false
 else incB m.n (-1) s && (!(s.any fun n=>decide (n∈(m.tasks.getD t.toNat ([],[])).2)) && ((zao m ch t.toNat).all (fun n=>decide (n∈s)) && wallB m ch t.toNat s))
mutual
def zaI (m:MZ):PT→List Int→Bool
 | .node t s ks,ch=>if m.tasks.length≤zO m ch then false else if t≠zO m ch∨s≠[] then cutB m ch t s ks.length else zaH m ks ch (zM m ch)
def zaH (m:MZ):List PT→List Int→List Int→Bool
 | [],_,[]=>true
 | k :: ks,ch,n :: l=>zaI m k (ch++[n]) && zaH m ks ch l
 | [],_,_ :: _=>false
 | _ :: _,_,[]=>false
end
def zaT (m:MZ) (p:PT):Bool:=decide (chk m=0) && (decide (0<m.tasks.length) && (decide (p.size≤3000) && zaI m p []))
structure AddR where
 ps:List (List Int)
 mv:List Int
 why:PT
 err:Int
def mvP (ps:List (List Int)) (t k:Nat) (f:List Int) (mv:List Int):List Int:=if k≠t∧ps.getD k []≠f then mv++[(k:Int)] else mv
def zaE (ps:List (List Int)) (t:Nat):List Nat→List (List Int)→List (List Int)→List Int→List (List Int)×List Int
 | [],_,o,mv=>(o,mv)
 | k :: l,fd,o,mv=>if zah ps t k=true then zaE ps t l fd.tail (o.set k (fd.headD [])) (mvP ps t k (fd.headD []) mv) else zaE ps t l fd o mv
noncomputable def endS (m:MZ) (ps:List (List Int)) (t:Nat):RS:=RS.run (zay m ps t) 20000 ⟨[],zae (zay m ps t) [],0⟩
noncomputable def zac (m:MZ) (ps:List (List Int)) (t:Nat):AddR:=
 if (endS m ps t).done=false then ⟨[],[],.zero,53⟩
 else if zae (zay m ps t) (endS m ps t).ch=true then ⟨(zaE ps t (List.range ps.length) (zJ (zay m ps t) (endS m ps t).ch) ps []).1,(zaE ps t (List.range ps.length) (zJ (zay m ps t) (endS m ps t).ch) ps []).2,.zero,0⟩
 else if (zbi (zay m ps t)).1=0 then ⟨[],[],(zbi (zay m ps t)).2,54⟩ else ⟨[],[],.zero,(zbi (zay m ps t)).1⟩
noncomputable def zaw (m:MZ) (ps:List (List Int)) (t:Int):AddR:=
 if (zau m ps && (zar m t && decide (ps.getD t.toNat []=[])))=true then
  match (zav (zaV ps)).findSome? fun s=>(zbW m ps t s).map fun o=>(o,s) with
  | some r=>⟨r.1,r.2,.zero,0⟩
  | none=>zac m ps t.toNat
 else ⟨[],[],.zero,1⟩
def reachLX (m:MZ) (t:Nat) (f us:List Int):List Int:=((List.range m.n.toNat).map Int.ofNat).filter fun x=>decide (x∈reachX m t f us)
def sideX (m:MZ) (ch:List Int) (t:Nat):List Int:=if chk m=0∧t<m.tasks.length then reachLX m t (zao m ch t) ch else []
theorem side_x {m:MZ} (d:Dim m) (ch:List Int) (t:Nat):zb6 m ch t=sideX m ch t:=by
 unfold zb6 sideX zcr reachLX;by_cases h:chk m=0∧t<m.tasks.length
 ·rw [if_pos h,if_pos ⟨h.1,by omega,by have:=h.2;omega⟩,reachL_x d]
  all_goals rfl
 ·rw [if_neg h,if_neg (fun h'=>h ⟨h'.1,by have:=h'.2.2;omega⟩)]
def offX (m:MZ) (ch:List Int) (t:Nat):Bool:=!((sideX m ch t).any fun n=>decide (n∈(m.tasks.getD t ([],[])).2)) && (decide (sideX m ch t≠[]) || decide (zO m ch<t))
def cutX (m:MZ) (ch:List Int):Option Nat:=((List.range (m.tasks.length - zO m ch)).map (zO m ch+·)).find? (offX m ch)
theorem cut_x {m:MZ} (d:Dim m) (ch:List Int):cutT m ch=cutX m ch:=by
 unfold cutT cutX;congr 1;funext t;unfold offB offX;rw [side_x d]
def proveX (m:MZ):Nat→List Int→Nat→Int×PT×Nat
 | 0,_,k=>(53,.zero,k)
 | f+1,ch,k=>
  if m.tasks.length≤zO m ch then (51,.zero,k)
  else if 3000<k+1 then (53,.zero,k+1)
  else match cutX m ch with
   | some t=>(0,.node t (sideX m ch t) [],k+1)
   | none=>
    let r:=zV (fun n k=>proveX m f (ch++[n]) k) (zM m ch) (k+1) []
    if r.1=0 then (0,.node (zO m ch) [] r.2.1,r.2.2) else (r.1,.zero,r.2.2)
theorem prove_x {m:MZ} (d:Dim m):∀(f:Nat) (ch:List Int) (k:Nat),zq m f ch k=proveX m f ch k
 | 0,ch,k=>rfl
 | f+1,ch,k=>by
  unfold zq proveX;rw [cut_x d]
  have h:(fun n k=>zq m f (ch++[n]) k)=fun n k=>proveX m f (ch++[n]) k:=by
   funext n k;exact prove_x d f _ _
  rw [h];by_cases h1:m.tasks.length≤zO m ch
  ·rw [if_pos h1,if_pos h1]
  ·rw [if_neg h1,if_neg h1];by_cases h2:3000<k+1
   ·rw [if_pos h2,if_pos h2]
   ·rw [if_neg h2,if_neg h2]
    cases cutX m ch with
    | some t=>show (0,PT.node _ (zb6 m ch t) _,_)=(0,PT.node _ (sideX m ch t) _,_);rw [side_x d]
    | none=>rfl
def makeX (m:MZ):Int×PT:=if chk m=0 then ((proveX m (m.n.toNat+2) [] 0).1,(proveX m (m.n.toNat+2) [] 0).2.1) else (chk m,.zero)
theorem make_x {m:MZ} (d:Dim m):zbi m=makeX m:=by
 unfold zbi makeX;rw [prove_x d]
theorem subM_dim {m:MZ} (d:Dim m) (ps:List (List Int)) (t:Nat):Dim (zay m ps t):=⟨d.w1,d.w2,d.h1,d.h2,d.l1,d.l2,d.n1,d.up⟩
def endX (m:MZ) (ps:List (List Int)) (t:Nat):RS:=RS.runX (zay m ps t) 20000 ⟨[],zae (zay m ps t) [],0⟩
theorem end_x {m:MZ} (d:Dim m) (ps:List (List Int)) (t:Nat):endS m ps t=endX m ps t:=run_x (subM_dim d ps t) _ _
def searchX (m:MZ) (ps:List (List Int)) (t:Nat):AddR:=
 if (endX m ps t).done=false then ⟨[],[],.zero,53⟩
 else if zae (zay m ps t) (endX m ps t).ch=true then ⟨(zaE ps t (List.range ps.length) (zJ (zay m ps t) (endX m ps t).ch) ps []).1,(zaE ps t (List.range ps.length) (zJ (zay m ps t) (endX m ps t).ch) ps []).2,.zero,0⟩
 else if (makeX (zay m ps t)).1=0 then ⟨[],[],(makeX (zay m ps t)).2,54⟩ else ⟨[],[],.zero,(makeX (zay m ps t)).1⟩
theorem search_x {m:MZ} (d:Dim m) (ps:List (List Int)) (t:Nat):zac m ps t=searchX m ps t:=by
 unfold zac searchX;rw [end_x d,make_x (subM_dim d ps t)]
def addX (m:MZ) (ps:List (List Int)) (t:Int):AddR:=
 if (zau m ps && (zar m t && decide (ps.getD t.toNat []=[])))=true then
  match (zav (zaV ps)).findSome? fun s=>(zbW m ps t s).map fun o=>(o,s) with
  | some r=>⟨r.1,r.2,.zero,0⟩
  | none=>searchX m ps t.toNat
 else ⟨[],[],.zero,1⟩
theorem add_x {m:MZ} (d:Dim m) (ps:List (List Int)) (t:Int):zaw m ps t=addX m ps t:=by
 unfold zaw addX;rw [search_x d]
 all_goals rfl
end Go.Proofs.YthbjngbhbbkkgaaGreat
namespace Go.Proofs.YthbjngbhbbkkgaaGreat
open Go.RowKit
attribute [local go_sem ↓] Go.wp_at_zero Go.wp_at_succ
theorem box6 (w:World) (a0 a1 a2 a3 a4 a5:Value):Ext w (w.alloc (.cells #[a0,a1,a2,a3,a4,a5] 32))∧
  (∀W,Ext (w.alloc (.cells #[a0,a1,a2,a3,a4,a5] 32)) W→W.cell? ⟨w.heap.size,0,none⟩=some a0)∧(∀W,Ext (w.alloc (.cells #[a0,a1,a2,a3,a4,a5] 32)) W→W.cell? ⟨w.heap.size,1,none⟩=some a1)∧
  (∀W,Ext (w.alloc (.cells #[a0,a1,a2,a3,a4,a5] 32)) W→W.cell? ⟨w.heap.size,2,none⟩=some a2)∧(∀W,Ext (w.alloc (.cells #[a0,a1,a2,a3,a4,a5] 32)) W→W.cell? ⟨w.heap.size,3,none⟩=some a3)∧
  (∀W,Ext (w.alloc (.cells #[a0,a1,a2,a3,a4,a5] 32)) W→W.cell? ⟨w.heap.size,4,none⟩=some a4)∧(∀W,Ext (w.alloc (.cells #[a0,a1,a2,a3,a4,a5] 32)) W→W.cell? ⟨w.heap.size,5,none⟩=some a5):=by
 have hB:=Blk.new w #[a0,a1,a2,a3,a4,a5] 32 rfl;exact ⟨(Ext.refl w).alloc _,Ext.rule (hB.cell (k:=0) rfl),Ext.rule (hB.cell (k:=1) rfl),Ext.rule (hB.cell (k:=2) rfl),Ext.rule (hB.cell (k:=3) rfl),Ext.rule (hB.cell (k:=4) rfl),Ext.rule (hB.cell (k:=5) rfl)⟩
theorem box1 (w:World) (a:Value) (t:TypeId):Ext w (w.alloc (.cells #[a] t))∧∀W,Ext (w.alloc (.cells #[a] t)) W→W.cell? ⟨w.heap.size,0,none⟩=some a:=
 ⟨(Ext.refl w).alloc _,Ext.rule ((Blk.new w #[a] t rfl).cell (k:=0) rfl)⟩
theorem zr.parts {w:World} {ok:Nat→Prop} {v:Value} {m:MZ} (h:zr w ok v m):∃Af cf Au cu At ct,v=.agg #[.int .i64 m.w,.int .i64 m.h,.int .i64 m.l,.slice Af m.free.length cf,.slice Au m.up.length cu,.slice At m.tasks.length ct]∧
  zaG w ok (.slice Af m.free.length cf) m.free∧zaQ w ok (.slice Au m.up.length cu) m.up∧zbh w ok (.slice At m.tasks.length ct) m.tasks:=by
 obtain ⟨vfr,vup,vts,rfl,hf,hu,ht⟩:=h;have hf2:=hf;have hu2:=hu;have ht2:=ht;obtain ⟨_,⟨Af,cf,rfl,-⟩,-⟩:=hf2;obtain ⟨Au,cu,rfl,-⟩:=hu2;obtain ⟨_,⟨At,ct,rfl,-⟩,-⟩:=ht2;exact ⟨Af,cf,Au,cu,At,ct,rfl,hf,hu,ht⟩
theorem zda {ok:Nat→Prop} {v:Value} {m:MZ} (t:Int) (w:World) (hm:zr w ok v m) (hl:Lens m):
  Calls Tryz.prog 37 #[v,.int .i64 t] w fun e w'=>e=.returned (.bool (zar m t))∧Ext w w':=by
 have HMZ:=zh hm;have HL:=zh hl;obtain ⟨Af,cf,Au,cu,At,ct,rfl,-,-,-⟩:=hm.parts;have l3:=hl.ts;clear hm hl
 go_enter Tryz.func37,Tryz.ntmps37
 go_wp2_with fail
 obtain ⟨hb1,r0,r1,r2,r3,r4,r5⟩:=box6 w (.int .i64 m.w) (.int .i64 m.h) (.int .i64 m.l) (.slice Af m.free.length cf) (.slice Au m.up.length cu) (.slice At m.tasks.length ct);generalize w.alloc (.cells #[.int .i64 m.w,.int .i64 m.h,.int .i64 m.l,.slice Af m.free.length cf,.slice Au m.up.length cu,.slice At m.tasks.length ct] 32)=w1 at hb1 r0 r1 r2 r3 r4 r5⊢;have hx:Ext w1 w1:=Ext.refl w1
 go_wp2_with fail
 refine (zaM w1 (HMZ.out.below hb1) HL.out).mono ?_;rintro e wA ⟨rfl,hbA⟩;have hxA:Ext w1 wA:=hbA;clear hx;have hk:∀b,zar m t=b→(Ending.returned (Value.bool b)=.returned (.bool (zar m t))∧Ext w wA):=fun b hb=>⟨by rw [hb],hb1.trans hxA⟩
 have HK:=zh hk;clear hk;by_cases hc:chk m=0
 case neg=>
  have hd:(chk m==0)=false:=by simpa using hc
  have hb:zar m t=false:=by unfold zar;rw [decide_eq_false hc];rfl
  have HB:=zh hb;clear hb hc;go_wp2;go_ret;exact HK.out _ HB.out
 have hd:(chk m==0)=true:=by simpa using hc
 by_cases h0:0≤t
 case neg=>
  have hb:zar m t=false:=by unfold zar;rw [decide_eq_false h0];simp
  have HB:=zh hb;clear hb hc;go_wp2;go_ret;exact HK.out _ HB.out
 by_cases h1:t<(m.tasks.length:Int)
 case neg=>
  have hb:zar m t=false:=by unfold zar;rw [decide_eq_false h1];simp
  have HB:=zh hb;clear hb hc;go_wp2;go_ret;exact HK.out _ (by first | exact HB.out | exact HB.out.trans (decide_eq_false (by omega)).symm | exact HB.out.trans (decide_eq_true (by omega)).symm)
 have hb:zar m t=true:=by unfold zar;rw [decide_eq_true h1,decide_eq_true h0,decide_eq_true hc];rfl
 have HB:=zh hb;clear hb hc;go_wp2;go_ret;exact HK.out _ (by first | exact HB.out | exact HB.out.trans (decide_eq_false (by omega)).symm | exact HB.out.trans (decide_eq_true (by omega)).symm)
end Go.Proofs.YthbjngbhbbkkgaaGreat
namespace Go.Proofs.YthbjngbhbbkkgaaGreat
open Go.RowKit
open Go.ChangeMaps (setBlock)
def entI:List (Int×Int)→Nat→List MapEntry
 | [],_=>[]
 | p :: l,b=>{ key:=.int .i64 p.1,val:=.int .i64 p.2,born:=b } :: entI l (b+1)
def mapObjI (l:List (Int×Int)):Obj:=.map (entI l 0).toArray l.length
def zbs (w:World) (g:Nat) (l:List (Int×Int)):Prop:=w.heap[g]?=some (mapObjI l)
theorem entI_append:∀(l l':List (Int×Int)) (b:Nat),entI (l++l') b=entI l b++entI l' (b+l.length)
 | [],_,_=>by simp [entI]
 | _ :: l,l',b=>by simp [entI,entI_append l l' (b+1),Nat.add_assoc,Nat.add_comm 1]
theorem zbs.below {w w':World} {g:Nat} {l:List (Int×Int)} (h:zbs w g l) (hb:Below w.heap.size w w'):zbs w' g l:=(hb.block g (zb h)).trans h
theorem zbs.new (w:World):zbs (w.alloc (.map #[] 0)) w.heap.size []:=heap_alloc_new _ _
open Go.Instr in
theorem zbY (x:Int):∀(l:List (Int×Int)) (b s:Nat),∃i,findNow (.int .i64) (.int .i64 x) (entI l b) s=some ((l.lookup x).map fun d=>(i,.int .i64 d))
 | [],_,_=>⟨0,by simp [entI,findNow]⟩
 | (y,d) :: l,b,s=>by
  simp only [entI,findNow,sameNow,if_true];by_cases h:x=y
  ·subst h;exact ⟨s,by simp⟩
  ·have hb:(x==y)=false:=by simpa using h
   simp only [hb];obtain ⟨i,hi⟩:=zbY x l (b+1) (s+1);refine ⟨i,?_⟩;rw [hi,List.lookup_cons,hb]
theorem run_farOk {w:World} {g:Nat} {l:List (Int×Int)} (h:zbs w g l) (x:Int) (t:TypeId) (ht:Tryz.prog.underlying t=some (.map 3 3)):
  (Instr.lookup t (.map (some g)) (.int .i64 x) true).run Tryz.prog w=.ok (.tuple #[.int .i64 ((l.lookup x).getD 0),.bool (l.lookup x).isSome]) w:=by
 have hz:∀w,(zeroValue 3).run Tryz.prog w=.ok (.int .i64 0) w:=fun w=>by kernel_rfl
 unfold Instr.lookup;simp only [Sem.run_bind,run_underlying ht,Result.andThen_ok,zbU h,mapObjI,Sem.run_pure];rw [show (10000:Nat)=9999+1 from rfl,zbC];obtain ⟨i,hi⟩:=zbY x l 0 0;simp only [Result.andThen_ok,Instr.findKey,Sem.run_bind,run_underlying Tryz.underlying3,List.toList_toArray,hi]
 cases l.lookup x with
 | none=>simp [hz]
 | some d=>simp
theorem run_far {w:World} {g:Nat} {l:List (Int×Int)} (h:zbs w g l) (x:Int) (t:TypeId) (ht:Tryz.prog.underlying t=some (.map 3 3)):
  (Instr.lookup t (.map (some g)) (.int .i64 x) false).run Tryz.prog w=.ok (.int .i64 ((l.lookup x).getD 0)) w:=by
 have hz:∀w,(zeroValue 3).run Tryz.prog w=.ok (.int .i64 0) w:=fun w=>by kernel_rfl
 unfold Instr.lookup;simp only [Sem.run_bind,run_underlying ht,Result.andThen_ok,zbU h,mapObjI,Sem.run_pure];rw [show (10000:Nat)=9999+1 from rfl,zbC];obtain ⟨i,hi⟩:=zbY x l 0 0;simp only [Result.andThen_ok,Instr.findKey,Sem.run_bind,run_underlying Tryz.underlying3,List.toList_toArray,hi]
 cases l.lookup x with
 | none=>simp [hz]
 | some d=>simp
theorem run_farAdd {w:World} {g:Nat} {l:List (Int×Int)} (h:zbs w g l) (x d:Int) (hx:l.lookup x=none) (t:TypeId) (ht:Tryz.prog.underlying t=some (.map 3 3)):
  ∃w',(Instr.mapUpdate t (.map (some g)) (.int .i64 x) (.int .i64 d)).run Tryz.prog w=.ok () w'∧zbs w' g (l++[(x,d)])∧w.grownBy w' (some g):=by
 refine ⟨setBlock w g (mapObjI (l++[(x,d)])),?_,setBlk_same h,⟨rfl,rfl,rfl,by simp [setBlock],fun k _ hk=>zcb _ (fun e=>hk (by rw [e]))⟩⟩;unfold Instr.mapUpdate;simp only [Sem.run_bind,run_underlying ht,Result.andThen_ok,zbU h,mapObjI];rw [show (10000:Nat)=9999+1 from rfl,zbC];obtain ⟨i,hi⟩:=zbY x l 0 0;rw [hx] at hi;simp only [Result.andThen_ok,Instr.findKey,Sem.run_bind,run_underlying Tryz.underlying3,List.toList_toArray,hi,Option.map_none];simp only [Sem.run_pure,Result.andThen_ok];rw [zdj _ h,entI_append];simp [entI]
theorem wpFarAdd {ops:Array Oper} {rest:List Oper} {o:Oper} {a:Act} {w:World} {Q:Exit→Act→World→Prop} (hg:o.guard=none) (m y v:Operand) (t:TypeId) (hop:o.op=Op.mapUpdate t m y v)
  (ht:Tryz.prog.underlying t=some (.map 3 3)) (g:Nat) (l:List (Int×Int)) (x d:Int) (hx:l.lookup x=none) (hm:a.eval m=.map (some g)) (hy:a.eval y=.int .i64 x) (hv:a.eval v=.int .i64 d) (hs:zbs w g l)
  (hK:∀w',zbs w' g (l++[(x,d)])→w.grownBy w' (some g)→wpList Tryz.prog ops Q rest (a.put o.dst undef) w'):wpList Tryz.prog ops Q (o :: rest) a w:=by
 refine wpList_plain hg fun K' hK'=>?_
 obtain ⟨w',hrun,h1,h2⟩:=run_farAdd hs x d hx t ht;unfold Oper.wp;simp [execOp,hop,hm,hy,hv,hrun,Result.andThen];exact hK' _ _ (hK w' h1 h2)
end Go.Proofs.YthbjngbhbbkkgaaGreat
namespace Go.Proofs.YthbjngbhbbkkgaaGreat
open Go.RowKit
def Que (w:World) (B:Nat) (v:Value) (l:List Int):Prop:=
 (v=.slice none 0 0∧l=[])∨∃g o c cur,v=.slice (some ⟨g,o,none⟩) l.length c∧B≤g∧l.length≤c∧c≤maxLen∧Blk w g 3 cur∧o+c≤cur.size∧∀(j:Nat) x,l[j]?=some x→cur[o+j]?=some (.int .i64 x)
theorem Que.nil (w:World) (B:Nat):Que w B (.slice none 0 0) []:=.inl ⟨rfl,rfl⟩
theorem Que.of_own {w:World} {B:Nat} {v:Value} {l:List Int} (h:zy w B v l):Que w B v l:=by
 obtain ⟨hl,⟨rfl,h0⟩ | ⟨g,cap,cur,rfl,hg,hh,hnc,hcap,hcs,ht⟩⟩:=h
 ·exact .inl ⟨rfl,List.length_eq_zero_iff.1 h0⟩
 ·refine .inr ⟨g,0,cap,cur,rfl,hg,hnc,hcap,hh,by omega,fun j x hx=>?_⟩;have h1:(l.map (Value.int .i64))[j]?=some (.int .i64 x):=by rw [List.getElem?_map,hx];rfl
  rw [←ht,List.getElem?_take] at h1
  split at h1
  ·rw [Nat.zero_add];simpa using h1
  ·cases h1
section
variable {w w':World} {B:Nat} {v:Value} {l:List Int} {x:Int}
theorem Que.ge (h:Que w B v l) {k:Nat} (hk:v.ownBlock=some k):B≤k∧k<w.heap.size:=by
 rcases h with ⟨rfl,-⟩ | ⟨g,o,c,cur,rfl,hg,-,-,hb,-⟩
 ·cases hk
 ·have:g=k:=by simpa [Value.ownBlock] using hk
  subst this;exact ⟨hg,zb hb⟩
theorem Que.kept {r:Option Nat} (h:Que w B v l) (hg:w.grownBy w' r) (hne:∀k,v.ownBlock=some k→r≠some k):Que w' B v l:=by
 rcases h with h | ⟨g,o,c,cur,rfl,h1,h2,h3,hb,h4⟩
 ·exact .inl h
 ·exact .inr ⟨g,o,c,cur,rfl,h1,h2,h3,(hg.block g (zb hb) (fun e=>hne g rfl e.symm)).trans hb,h4⟩
theorem Que.more (h:Que w B v l) (hb:Ext w w'):Que w' B v l:=
 h.kept (r:=none) ⟨hb.os,hb.tape,hb.output,hb.size,fun i hi _=>hb.block i hi⟩ (fun _ _ e=>by cases e)
theorem Que.slice (h:Que w B v l):∃A c,v=.slice A l.length c∧l.length≤c:=by
 rcases h with ⟨rfl,rfl⟩ | ⟨g,o,c,cur,rfl,-,h2,-⟩
 ·exact ⟨none,0,rfl,Nat.le_refl _⟩
 ·exact ⟨_,c,rfl,h2⟩
theorem Que.head (h:Que w B v (x :: l)):∃g o c v',v=.slice (some ⟨g,o,none⟩) (l.length+1) (c+1)∧l.length≤c∧w.cell? ⟨g,o,none⟩=some (.int .i64 x)∧Que w B v' l∧v'.ownBlock=v.ownBlock∧
  (Instr.sliceAt 23 (.slice (some ⟨g,o,none⟩) (l.length+1) (c+1)) (some (.int .i64 1)) none none).run Tryz.prog w=.ok v' w∧(Instr.slice 23 (.slice (some ⟨g,o,none⟩) (l.length+1) (c+1)) (some (.int .i64 1)) none none).run Tryz.prog w=.ok v' w:=by
 rcases h with ⟨-,h⟩ | ⟨g,o,c,cur,rfl,h1,h2,h3,hb,h4,h5⟩
 ·cases h
 ·obtain ⟨c,rfl⟩:∃c',c=c'+1:=⟨c - 1,by simp at h2;omega⟩;have hlc:l.length≤c:=by simpa using h2
  have hz:(sizeOf 3).run Tryz.prog w=.ok 1 w:=Tryz.sizeOf3 w
  have hrun:(Instr.slice 23 (.slice (some ⟨g,o,none⟩) (l.length+1) (c+1)) (some (.int .i64 1)) none none).run Tryz.prog w=.ok (.slice (if c+1=1 then some ⟨g,o,none⟩ else some ⟨g,o+1,none⟩) l.length c) w:=by
   have hsb:(Instr.sliceBounds true (l.length+1) (c+1) (some (.int .i64 1)) none none).run Tryz.prog w=.ok (1,l.length+1,c+1) w:=by
    unfold Instr.sliceBounds;simp only [Sem.run_bind,Sem.run_pure,Result.andThen_ok];rw [run_sliceBound _ _ _ _ _ (by omega) (by omega)]
    all_goals rfl
   unfold Instr.slice;simp only [Sem.run_bind,run_underlying Tryz.underlying23,Result.andThen_ok,hsb,hz,Sem.run_pure,Nat.add_sub_cancel,Nat.mul_one]
   split <;> simp [Addr.add]
  refine ⟨g,o,c,_,rfl,hlc,?_,?_,?_,(run_sliceAt_slice w 23 _ _ _ _ Tryz.underlying23).trans hrun,hrun⟩
  ·have:=h5 0 x rfl;unfold World.cell?;have hb':w.heap[g]?=_:=hb;simp only [hb'];simpa using this
  ·by_cases hc0:c=0
   ·subst hc0;have hl0:l=[]:=List.length_eq_zero_iff.1 (by omega);subst hl0;exact .inr ⟨g,o,0,cur,rfl,h1,Nat.le_refl _,by omega,hb,by omega,fun j y hy=>by simp at hy⟩
   ·rw [if_neg (by omega)];refine .inr ⟨g,o+1,c,cur,rfl,h1,hlc,by omega,hb,by omega,fun j y hy=>?_⟩;have:=h5 (j+1) y (by simpa using hy);rw [show o+1+j=o+(j+1) by omega];exact this
  ·split <;> rfl
theorem run_que_app (h:Que w B v l) (t ty:TypeId) (ht:Tryz.prog.underlying t=some (.slice 3)) {g c:Nat} (hc:w.cell? ⟨g,0,none⟩=some (.int .i64 x)) (hB:B≤w.heap.size) (hl:l.length≤1000000000000):
  ∃v' w',(Builtin.append_ #[t,t] ty #[v,.slice (some ⟨g,0,none⟩) 1 c]).run Tryz.prog w=.ok v' w'∧Que w' B v' (l++[x])∧w.grownBy w' v.ownBlock∧(v'.ownBlock=v.ownBlock∨v'.ownBlock=some w.heap.size):=by
 obtain ⟨i0,hi,hz0,hz1,hz2⟩:=info_parts Tryz.infoInt
 have hnews:∀(j:Nat) (u:Value),[Value.int .i64 x][j]?=some u→w.cell? ((⟨g,0,none⟩:Addr).add j)=some u:=fun j u hu=>by
  match j,hu with
  | 0,hu=>
   have:u=.int .i64 x:=by simpa using hu.symm
   rw [this];exact hc
 have hone:∀u∈[Value.int .i64 x],u.oneCell'=true:=fun u hu=>by
  have:u=.int .i64 x:=by simpa using hu
  rw [this];rfl
 rcases h with ⟨rfl,rfl⟩ | ⟨gq,o,cq,cur,rfl,h1,h2,h3,hb,h4,h5⟩
 ·obtain ⟨v',w',hrun,r1,r2,-⟩:=run_append_own (P:=Tryz.prog) w B t ty 3 i0 (.int .i64 0) 1 8 ht hi hz0 hz1 hz2 rfl (by decide) (.slice none 0 0) 0 [] (World.ownsRow_nil _ _ _ _) ⟨g,0,none⟩ 1 c [.int .i64 x] rfl hnews hone (by unfold maxLen;omega) (by omega) hB;have hO:zy w' B v' [x]:=r1;refine ⟨v',w',hrun,Que.of_own hO,r2,.inr ?_⟩;have hn:=run_append_nil (P:=Tryz.prog) w t ty 3 i0 (.int .i64 0) ht hi hz0 ⟨g,0,none⟩ 1 c [.int .i64 x] (by rw [hz1];rfl) hnews (by omega) (by omega) (by rw [hz2];omega);rw [hrun] at hn;injection hn with hn _;rw [hn];rfl
 ·have hcell:∀j,j<o+cq→∃u,w.cell? ⟨gq,j,none⟩=some u:=fun j hj=>by
   have hb':w.heap[gq]?=_:=hb;unfold World.cell?;simp only [hb'];exact ⟨cur[j]'(by omega),by simp⟩
  have hfr:∀j,w.frozen? ⟨gq,j,none⟩=false:=fun j=>by
   have hb':w.heap[gq]?=_:=hb;unfold World.frozen?;simp only [hb'];simp
  by_cases hroom:l.length+1≤cq
  ·have hrun:=run_append_room_cells (P:=Tryz.prog) w t ty 3 i0 ht hi gq o l.length cq ⟨g,0,none⟩ 1 c [.int .i64 x] (by rw [hz1];rfl) hnews hone hroom
    (fun j hj=>by
     have:j=0:=by simpa using hj
     subst this;obtain ⟨u,hu⟩:=hcell (o+l.length*i0.size+0) (by rw [hz1];omega);rw [hu];rfl) (fun j hj=>hfr _)
   have e1:w.setCells gq (o+l.length*i0.size) [.int .i64 x]=w.setCell ⟨gq,o+l.length,none⟩ (.int .i64 x):=by
    rw [hz1,Nat.mul_one];rfl
   rw [e1] at hrun;refine ⟨_,_,hrun,.inr ⟨gq,o,cq,_,by rw [List.length_append];rfl,h1,by rw [List.length_append];exact hroom,h3,hb.set _,by simpa using h4,fun j y hy=>?_⟩,⟨rfl,rfl,rfl,by simp,fun k _ hk=>Below.heap_setCell w ⟨gq,o+l.length,none⟩ _ k (fun e=>hk (by simp [Value.ownBlock,e]))⟩,.inl rfl⟩;rw [Array.getElem?_setIfInBounds];by_cases hj:j<l.length
   ·rw [if_neg (by omega)];exact h5 j y (by rwa [List.getElem?_append_left hj] at hy)
   ·rw [List.getElem?_append_right (by omega)] at hy
    have hj0:j - l.length=0:=by
     obtain ⟨h,-⟩:=List.getElem?_eq_some_iff.1 hy;simpa using h
    have hje:j=l.length:=by omega
    subst hje;rw [if_pos rfl,if_pos (by omega)];have:x=y:=by simpa using hy
    rw [this]
  ·have holds:∀(j:Nat) u,(l.map (Value.int .i64))[j]?=some u→w.cell? ((⟨gq,o,none⟩:Addr).add j)=some u:=fun j u hu=>by
    rw [List.getElem?_map] at hu
    cases hl2:l[j]? with
    | none=>rw [hl2] at hu;cases hu
    | some y=>
     rw [hl2] at hu;have h6:=h5 j y hl2;have hb':w.heap[gq]?=_:=hb;rw [Addr.add_lit];unfold World.cell?;simp only [hb'];rw [h6];exact hu
   have hgr:=run_append_grow (P:=Tryz.prog) w t ty 3 i0 (.int .i64 0) ht hi hz0 ⟨gq,o,none⟩ l.length cq (l.map (Value.int .i64)) (by rw [hz1];simp) holds ⟨g,0,none⟩ 1 c [.int .i64 x] (by rw [hz1];rfl) hnews (by omega) (by omega) (growslice_fits (by omega) (by rw [hz2];omega));obtain ⟨v',w',hrun,r1,r2⟩:=run_append_arg_grows (P:=Tryz.prog) w t ty 3 i0 (.int .i64 0) 1 8 ht hi hz0 hz1 hz2 rfl (by decide) ⟨gq,o,none⟩ l.length cq (l.map (Value.int .i64)) (by simp) holds ⟨g,0,none⟩ 1 c [.int .i64 x] rfl hnews (by omega) (by unfold maxLen;omega) (by omega)
   have hO:zy w' w.heap.size v' (l++[x]):=by
    unfold zy;rw [map_snoc,List.length_append];exact r1
   have hO':zy w' B v' (l++[x]):=hO.mono hB;refine ⟨v',w',hrun,Que.of_own hO',⟨r2.os,r2.tape,r2.output,r2.size,fun k hk _=>r2.block k hk (by simp)⟩,.inr ?_⟩;rw [hrun] at hgr;injection hgr with hgr _;rw [hgr];rfl
theorem wpQueApp {ops:Array Oper} {rest:List Oper} {o:Oper} {a:Act} {Q:Exit→Act→World→Prop} (hgd:o.guard=none) (s y:Operand)
  (ho:o.op=.call { callee:=.builtin .append,args:=#[s,y],argTypes:=#[23,23] }) (W:World) (l:List Int) (x:Int) (B g c:Nat) (v:Value) (hs:a.eval s=v)
  (hy:a.eval y=.slice (some ⟨g,0,none⟩) 1 c) (hown:Que W B v l) (hc:W.cell? ⟨g,0,none⟩=some (.int .i64 x)) (hB:B≤W.heap.size) (hl:l.length≤1000000000000)
  (h:∀v' w',Que w' B v' (l++[x])→Hid (W.grownBy w' v.ownBlock)→Hid (v'.ownBlock=v.ownBlock∨v'.ownBlock=some W.heap.size)→wpList Tryz.prog ops Q rest (a.put o.dst v') w'):wpList Tryz.prog ops Q (o :: rest) a W:=by
 refine wpList_plain hgd fun K hK'=>?_
 obtain ⟨v',w',hrun,r1,r2,r3⟩:=run_que_app hown 23 o.type Tryz.underlying23 (c:=c) hc hB hl;unfold Oper.wp;simp [execOp,ho,resolve,invoke,builtin,hs,hy,hrun,Result.andThen];exact hK' _ _ (h v' w' r1 r2 r3)
end
end Go.Proofs.YthbjngbhbbkkgaaGreat
namespace Go.Proofs.YthbjngbhbbkkgaaGreat
open Go.RowKit
attribute [local go_sem ↓] Go.wp_at_zero Go.wp_at_succ
theorem zcc {W:World} {ok:Nat→Prop} {m:MZ} {Af:Option Addr} {cf:Nat} (h:zaG W ok (.slice Af m.free.length cf) m.free) (hfn:∀f∈m.free,(f.length:Int)=m.n) {t:Nat} (ht:t<m.free.length) {n:Int} (h0:0≤n) (h1:n<m.n):
  ∃b off b' off' l c',Af=some ⟨b,off,none⟩∧W.cell? ⟨b,off+t,none⟩=some (.slice (some ⟨b',off',none⟩) l c')∧n<(l:Int)∧l≤c'∧m.free.length≤cf∧W.cell? ⟨b',off'+n.toNat,none⟩=some (.bool (ze m t n)):=by
 obtain ⟨vsf,⟨A,c,e,hcf,hrf⟩,hef⟩:=h;injection e with e1 e2 e3;subst e1 e3;obtain ⟨bf,off3,uf,rfl,_,hcf1,hbf⟩:=zP hrf hef ht ht;have hflen:=hfn _ (List.getElem_mem ht);obtain ⟨A4,c4,rfl,hc4,hr4⟩:=hbf;have hyl:n.toNat<(m.free[t]).length:=by omega
 obtain ⟨b4,off4,rfl,_,hcf2⟩:=zbn hr4 hyl hyl;have hfr:(m.free[t])[n.toNat]=ze m t n:=by simp [ze,ht,hyl]
 rw [hfr] at hcf2;exact ⟨bf,off3,b4,off4,_,c4,rfl,hcf1,by omega,hc4,hcf,hcf2⟩
theorem lookM_t {w:World} {g:Nat} {l:List Int} {x:Int} (h:zA w g l) (hx:x∈l):(Instr.lookup 78 (.map (some g)) (.int .i64 x) false).run Tryz.prog w=.ok (.bool true) w:=by
 have:=run_look h x 78 Tryz.underlying78
 rwa [decide_eq_true hx] at this
theorem lookM_f {w:World} {g:Nat} {l:List Int} {x:Int} (h:zA w g l) (hx:x∉l):(Instr.lookup 78 (.map (some g)) (.int .i64 x) false).run Tryz.prog w=.ok (.bool false) w:=by
 have:=run_look h x 78 Tryz.underlying78
 rwa [decide_eq_false hx] at this
structure FreeM (w:World) (ok:Nat→Prop) (gm gt gb gs:Nat) (m:MZ) (t:Nat) (Af:Option Addr) (cf:Nat) (fixed:List (List Int)) (s:List Int):Prop where
 hcf:w.cell? ⟨gm,3,none⟩=some (.slice Af m.free.length cf)
 ct:w.cell? ⟨gt,0,none⟩=some (.int .i64 t)
 cb:w.cell? ⟨gb,0,none⟩=some (.map (some gs))
 fr:zaG w ok (.slice Af m.free.length cf) m.free
 set:zA w gs s
 mem:∀x,x∈s↔x∈fixed.flatten
theorem FreeM.ext {w w':World} {ok:Nat→Prop} {gm gt gb gs t cf:Nat} {m:MZ} {Af:Option Addr} {fixed:List (List Int)} {s:List Int} (h:FreeM w ok gm gt gb gs m t Af cf fixed s) (hE:Ext w w'):FreeM w' ok gm gt gb gs m t Af cf fixed s:=
 ⟨hE.cell h.hcf,hE.cell h.ct,hE.cell h.cb,h.fr.below hE,h.set.below hE,h.mem⟩
theorem path1_calls {ok:Nat→Prop} {gm gt gb gs t cf:Nat} {m:MZ} {Af:Option Addr} {fixed:List (List Int)} {s:List Int} (n:Int) (w:World) (h:FreeM w ok gm gt gb gs m t Af cf fixed s) (hfn:∀f∈m.free,(f.length:Int)=m.n) (ht:t<m.free.length) (h0:0≤n) (h1:n<m.n):
  Calls Tryz.prog 48 #[.int .i64 n,.pointer (some ⟨gm,0,none⟩),.pointer (some ⟨gt,0,none⟩),.pointer (some ⟨gb,0,none⟩)] w fun e w'=>e=.returned (.bool (frP m t fixed n))∧w=w':=by
 obtain ⟨hcm,hct,hcb,hfr,hset,hmem⟩:=h;obtain ⟨b,off,b',off',l,c',rfl,hcl1,hl,hlc,hfc,hcl2⟩:=zcc hfr hfn ht h0 h1;have ht1:(t:Int)<(m.free.length:Int):=by omega
 have ht0:(0:Int)≤(t:Int):=by omega
 clear hfr hfn
 have hfp:frP m t fixed n=(ze m t n && !decide (n∈s)):=by
  unfold frP;rw [decide_eq_decide.2 (hmem n)]
 rw [hfp];clear hfp hmem h1;obtain ⟨fb,hfb⟩:∃fb,fb=ze m t n:=⟨_,rfl⟩;rw [←hfb] at hcl2⊢;clear hfb;by_cases hu:n∈s
 ·have hlk:=lookM_t hset hu;have hgoal:Hid ((fb && !decide (n∈s))=false):=by show _=false;rw [decide_eq_true hu];cases fb <;> rfl
  clear hu hset
  cases fb with
  | false=>
   go_enter Tryz.func48,Tryz.ntmps48
   go_wp2;go_ret;exact ⟨zd hgoal.out.symm,rfl⟩
  | true=>
   go_enter Tryz.func48,Tryz.ntmps48
   go_wp2;go_ret;exact ⟨zd hgoal.out.symm,rfl⟩
 ·have hlk:=lookM_f hset hu;have hgoal:Hid ((fb && !decide (n∈s))=fb):=by show _=fb;rw [decide_eq_false hu];cases fb <;> rfl
  clear hu hset
  cases fb with
  | false=>
   go_enter Tryz.func48,Tryz.ntmps48
   go_wp2;go_ret;exact ⟨zd hgoal.out.symm,rfl⟩
  | true=>
   go_enter Tryz.func48,Tryz.ntmps48
   go_wp2;go_ret;exact ⟨zd hgoal.out.symm,rfl⟩
def bestS (F:List (Int×Int)) (b:Option Int) (n:Int):Option Int:=match F.lookup n with
 | none=>b
 | some d=>match b with
  | none=>some n
  | some c=>if d<(F.lookup c).getD 0∨(d=(F.lookup c).getD 0∧n<c) then some n else some c
theorem bestL_fold (F:List (Int×Int)):∀(l:List Int) (b:Option Int),zaS F l b=l.foldl (bestS F) b
 | [],b=>rfl
 | n :: l,b=>by
  unfold zaS;rw [List.foldl_cons,bestL_fold F l]
  all_goals rfl
theorem bestL_succ {F:List (Int×Int)} {l:List Int} {k:Nat} (hk:k<l.length):zaS F (l.take (k+1)) none=bestS F (zaS F (l.take k) none) l[k]:=by
 rw [bestL_fold,bestL_fold,List.take_succ_eq_append_getElem hk,List.foldl_append]
 all_goals rfl
theorem bestS_none {F:List (Int×Int)} {b:Option Int} {n:Int} (h:F.lookup n=none):bestS F b n=b:=by unfold bestS;rw [h]
theorem bestS_first {F:List (Int×Int)} {n d:Int} (h:F.lookup n=some d):bestS F none n=some n:=by unfold bestS;rw [h]
theorem bestS_new {F:List (Int×Int)} {n d c e:Int} (h:F.lookup n=some d) (hc:F.lookup c=some e) (hl:d<e∨(d=e∧n<c)):bestS F (some c) n=some n:=by
 unfold bestS;rw [h];show (if d<(F.lookup c).getD 0∨(d=(F.lookup c).getD 0∧n<c) then some n else some c)=_;rw [hc,Option.getD_some,if_pos hl]
theorem bestS_old {F:List (Int×Int)} {n d c e:Int} (h:F.lookup n=some d) (hc:F.lookup c=some e) (hl:¬ (d<e∨(d=e∧n<c))):bestS F (some c) n=some c:=by
 unfold bestS;rw [h];show (if d<(F.lookup c).getD 0∨(d=(F.lookup c).getD 0∧n<c) then some n else some c)=_;rw [hc,Option.getD_some,if_neg hl]
theorem zcJ {w:World} {g:Nat} {l:List (Int×Int)} {x:Int} (h:zbs w g l) (hx:l.lookup x=none):(Instr.lookup 83 (.map (some g)) (.int .i64 x) true).run Tryz.prog w=.ok (.tuple #[.int .i64 0,.bool false]) w:=by
 have:=run_farOk h x 83 Tryz.underlying83
 rwa [hx] at this
theorem zcl {w:World} {g:Nat} {l:List (Int×Int)} {x d:Int} (h:zbs w g l) (hx:l.lookup x=some d):(Instr.lookup 83 (.map (some g)) (.int .i64 x) true).run Tryz.prog w=.ok (.tuple #[.int .i64 d,.bool true]) w:=by
 have:=run_farOk h x 83 Tryz.underlying83
 rwa [hx] at this
theorem far_some {w:World} {g:Nat} {l:List (Int×Int)} {x d:Int} (h:zbs w g l) (hx:l.lookup x=some d):(Instr.lookup 83 (.map (some g)) (.int .i64 x) false).run Tryz.prog w=.ok (.int .i64 d) w:=by
 have:=run_far h x 83 Tryz.underlying83
 rwa [hx] at this
theorem ownOne (W:World) (B:Nat) (e:TypeId) (x:Value) (hB:B≤W.heap.size):(W.alloc (.cells #[x] e)).ownsRow B e 1 (.slice (some ⟨W.heap.size,0,none⟩) 1 1) 1 [x]:=
 ⟨rfl,.inr ⟨W.heap.size,1,#[x],rfl,hB,heap_alloc_new _ _,Nat.le_refl _,by unfold maxLen;omega,rfl,rfl⟩⟩
theorem DFI.dist {m:MZ} {fr:Int→Bool} {tg:List Int} {k:Nat} {F:List (Int×Int)} (g:zx m) (h:DFI m fr tg k F) {x d:Int} (hx:F.lookup x=some d):0≤d∧d<300:=by
 have h0:=(h.rg _ (zag hx)).2.2;simp only at h0;obtain ⟨f,rfl⟩:∃f:Nat,d=(f:Int):=⟨d.toNat,by omega⟩;obtain ⟨a1,-,a3,-⟩:=down_spec g.dim h f x hx
 have hn:(zb7 m F f x).Nodup:=by
  rw [List.nodup_iff_pairwise_ne,List.pairwise_iff_getElem];intro i j hi hj hij e;have h1:=(a3 i _ (List.getElem?_eq_getElem hi));have h2:=(a3 j _ (List.getElem?_eq_getElem hj));rw [e,h2.2] at h1;have:=h1.2;injection this with this;omega
 have h2:=zaK hn m.n (fun y hy=>by
  obtain ⟨i,hi,rfl⟩:=List.getElem_of_mem hy;exact (h.rg _ (zag (a3 i _ (List.getElem?_eq_getElem hi)).2)).1)
 have h3:=g.dim.n1;unfold MZ.n at h2;omega
theorem downN_at {m:MZ} {fr:Int→Bool} {tg:List Int} {k:Nat} {F:List (Int×Int)} (d:Dim m) (h:DFI m fr tg k F) {b:Int} {f:Nat} (hb:F.lookup b=some ((f:Int)+1)):
  ∃i,∃hi:i<(zi m b).length,(zi m b)[i]=zbS m F b∧∀j (hj:j<i),F.lookup ((zi m b)[j]'(by omega))≠some (f:Int):=by
 have hx:=(downN_ok d h hb).1;have e:(F.lookup b).getD 0 - 1=(f:Int):=by rw [hb,Option.getD_some];omega
 cases hfd:(zi m b).find? (fun x=>decide (F.lookup x=some (f:Int))) with
 | none=>
  have:=List.find?_eq_none.1 hfd _ (downN_ok d h hb).2;exact absurd (decide_eq_true hx) this
 | some y=>
  have hy:zbS m F b=y:=by unfold zbS;rw [e,hfd];rfl
  obtain ⟨-,i,hi,e1,e2⟩:=List.find?_eq_some_iff_getElem.1 hfd;refine ⟨i,hi,by rw [hy];exact e1,fun j hj=>?_⟩;have:=e2 j hj;simpa using this
theorem descend_calls {okm okf:Nat→Prop} {v vf:Value} {m:MZ} {fm tg:List Int} {gf k:Nat} {fr:Int→Bool} {F:List (Int×Int)} (w:World) (hm:zr w okm v m) (hl:Lens m) (hc:chk m=0) (hf:zf w okf vf fm) (hfl:fm.length≤20000000000000)
  (hF:zbs w gf F) (hI:DFI m fr tg k F):
  Calls Tryz.prog 49 #[v,vf,.map (some gf)] w fun e w'=>∃v',e=.returned (.tuple #[v',.bool (zb9 m F fm).isSome])∧Mk w w' v' ((zb9 m F fm).getD []):=by
 have HMZ:=zh hm;have HL:=zh hl;have HFI:=zh hI;have HC:=zh hc;have G:=zh (zx.of hc);obtain ⟨Af,cf,Au,cu,At,ct,rfl,-,-,-⟩:=hm.parts;obtain ⟨A,c,rfl,hcc,hr⟩:=hf;have HR:=zh hr;clear hm hl hr hI hc
 go_enter Tryz.func49,Tryz.ntmps49
 go_wp2_with fail
 obtain ⟨hb1,r0,r1,r2,r3,r4,r5⟩:=box6 w (.int .i64 m.w) (.int .i64 m.h) (.int .i64 m.l) (.slice Af m.free.length cf) (.slice Au m.up.length cu) (.slice At m.tasks.length ct);generalize w.alloc (.cells #[.int .i64 m.w,.int .i64 m.h,.int .i64 m.l,.slice Af m.free.length cf,.slice Au m.up.length cu,.slice At m.tasks.length ct] 32)=w1 at hb1 r0 r1 r2 r3 r4 r5⊢;have hF1:zbs w1 gf F:=hF.below hb1;have hx:Ext w1 w1:=Ext.refl w1
 go_wp2_with fail
 go_loopw [8,9,21] (fun b s i wr=>∃k bo,k≤fm.length∧i=.int .i64 (k:Nat)∧w1=wr∧b=.int .i64 (bo.getD 0)∧s=.bool bo.isSome∧Hid (bo=zaS F (fm.take k) none)∧Hid (∀c,bo=some c→∃e,F.lookup c=some e)) (fun _ _ i _=>fm.length - (intOf i).toNat)
 case atStart=>exact ⟨0,none,Nat.zero_le _,rfl,rfl,rfl,rfl,rfl,fun c h=>by cases h⟩
 case round=>
  obtain ⟨k,bo,hk,rfl,rfl,rfl,rfl,hbo,hbs⟩:=hrel;by_cases hlt:k<fm.length
  ·obtain ⟨b,off,rfl,_,hcell⟩:=zt (HR.out.keep (zX.of_below hb1)) hlt hlt;have hsucc:Hid (zaS F (fm.take (k+1)) none=bestS F bo fm[k]):=by show _=_;rw [hbo.out];exact bestL_succ hlt
   clear hbo;obtain ⟨y,hy⟩:∃y,y=fm[k]:=⟨_,rfl⟩;rw [←hy] at hcell hsucc;clear hy
   cases hy:F.lookup y with
   | none=>
    have hlk:=zcJ hF1 hy;have HB:Hid (bo=zaS F (fm.take (k+1)) none):=by show _=_;rw [hsucc.out,bestS_none hy]
    clear hy
    cases bo with
    | none=>
     go_wp2;go_roundw
     case rel=>exact ⟨k+1,none,by omega,by go_num,by trivial,rfl,rfl,HB,hbs⟩
     case measure=>simp [intOf];omega
    | some c0=>
     go_wp2;go_roundw
     case rel=>exact ⟨k+1,some c0,by omega,by go_num,by trivial,rfl,rfl,HB,hbs⟩
     case measure=>simp [intOf];omega
   | some d=>
    have hlk:=zcl hF1 hy
    cases bo with
    | none=>
     have HB:Hid (some y=zaS F (fm.take (k+1)) none):=by show _=_;rw [hsucc.out,bestS_first hy]
     have HY:=zh hy;clear hy;go_wp2;go_roundw
     case rel=>exact ⟨k+1,some y,by omega,by go_num,by trivial,rfl,rfl,HB,fun c e=>by injection e with e;subst e;exact ⟨d,HY.out⟩⟩
     case measure=>simp [intOf];omega
    | some c0=>
     obtain ⟨e,he⟩:=hbs.out c0 rfl;have hlc:=far_some hF1 he;by_cases hde:d<e
     ·have HB:Hid (some y=zaS F (fm.take (k+1)) none):=by show _=_;rw [hsucc.out,bestS_new hy he (.inl hde)]
      have HY:=zh hy;clear hy;clear he;go_wp2;go_roundw
      case rel=>exact ⟨k+1,some y,by omega,by go_num,by trivial,rfl,rfl,HB,fun c e=>by injection e with e;subst e;exact ⟨d,HY.out⟩⟩
      case measure=>simp [intOf];omega
     ·by_cases hee:d=e
      ·subst hee;by_cases hyc:y<c0
       ·have HB:Hid (some y=zaS F (fm.take (k+1)) none):=by show _=_;rw [hsucc.out,bestS_new hy he (.inr ⟨rfl,hyc⟩)]
        have HY:=zh hy;clear hy;clear he;go_wp2;go_roundw
        case rel=>exact ⟨k+1,some y,by omega,by go_num,by trivial,rfl,rfl,HB,fun c e=>by injection e with e;subst e;exact ⟨d,HY.out⟩⟩
        case measure=>simp [intOf];omega
       ·have HB:Hid (some c0=zaS F (fm.take (k+1)) none):=by show _=_;rw [hsucc.out,bestS_old hy he (by omega)]
        clear hy he;go_wp2;go_roundw
        case rel=>exact ⟨k+1,some c0,by omega,by go_num,by trivial,rfl,rfl,HB,hbs⟩
        case measure=>simp [intOf];omega
      ·have HB:Hid (some c0=zaS F (fm.take (k+1)) none):=by show _=_;rw [hsucc.out,bestS_old hy he (by omega)]
       have hee2:(d==e)=false:=by simpa using hee
       clear hy he;go_wp2;go_roundw
       case rel=>exact ⟨k+1,some c0,by omega,by go_num,by trivial,rfl,rfl,HB,hbs⟩
       case measure=>simp [intOf];omega
  ·obtain rfl:k=fm.length:=by omega
   have hbo':Hid (bo=zaS F fm none):=by have:=hbo.out;rwa [List.take_length] at this
   clear hbo hlt hk
   cases bo with
   | none=>
    have hd:zb9 m F fm=none:=by unfold zb9;rw [←hbo'.out];rfl
    have HD:=zh hd;clear hd;go_wp2
    go_ret2
    rw [HD.out];exact ⟨_,rfl,Mk.nil' hb1⟩
   | some b0=>
    obtain ⟨d,hd0⟩:=hbs.out b0 rfl;have hdr:=HFI.out.dist G.out hd0;obtain ⟨f,rfl⟩:∃f:Nat,d=(f:Int):=⟨d.toNat,by omega⟩;have hdp:zb9 m F fm=some (zb7 m F f b0):=by unfold zb9;rw [←hbo'.out,Option.map_some,hd0];rfl
    have HD:=zh hdp;clear hdp hbo' hbs;have HD0:Hid (F.lookup b0=some (f:Int)):=hd0;clear hd0
    go_wp2_with fail
    obtain ⟨hb2,r6⟩:=box1 w1 (.int .i64 b0) 3;have hO:Hid (Mk w1 (w1.alloc (.cells #[.int .i64 b0] 3)) (.slice (some ⟨w1.heap.size,0,none⟩) 1 1) ([]++[b0])):=⟨ownOne w1 w1.heap.size 3 (.int .i64 b0) (Nat.le_refl _),hb2⟩;clear hb2 r6
    go_loopg [8,14] f (fun r b v wr=>∃pre cur,b=.int .i64 cur∧Hid (Mk w1 wr v (pre++[cur]))∧Hid (F.lookup cur=some (r:Int))∧Hid (pre++zb7 m F r cur=zb7 m F f b0)∧pre.length+r=f)
    case atStart=>exact ⟨[],b0,rfl,hO,HD0,rfl,by simp⟩
    clear hO
    case round=>
     obtain ⟨pre,cur,rfl,hM,hlk0,heq,hlen⟩:=hrel;have hx:Ext w1 wr:=hM.out.ext;have hFr:zbs wr gf F:=hF1.below hx;obtain ⟨wk,rfl⟩:∃wk:World,wk=wr:=⟨_,rfl⟩;have hlk:=far_some hFr hlk0.out
     cases gk with
     | zero=>
      have h00:(((0:Nat):Int))=0:=rfl;rw [h00] at hlk;have HE:Hid (pre++[cur]=zb7 m F f b0):=heq.out;clear heq;go_wp2
      go_ret2
      rw [HD.out];exact ⟨_,rfl,hb1.mono_mk (hM.out.cast HE.out.symm)⟩
     | succ r=>
      have hlk1:F.lookup cur=some ((r:Int)+1):=by have:=hlk0.out;rw [this];congr 1
      have hcur:=(HFI.out.rg _ (zag hlk1)).1;simp only at hcur;have hr300:=HFI.out.dist G.out hlk1;obtain ⟨i0,hi0,hie,hin⟩:=downN_at G.out.dim HFI.out hlk1;obtain ⟨hdn1,hdn2⟩:=downN_ok G.out.dim HFI.out hlk1;have e1:((r+1:Nat):Int)=(r:Int)+1:=by omega
      rw [e1] at hlk;have hpos:(0:Int)<(r:Int)+1:=by omega
      have hwr:IntKind.i64.wrap ((r:Int)+1 - 1)=(r:Int):=by rw [IntKind.wrap_i64];omega
      have hwr2:IntKind.i64.wrap (r:Int)=(r:Int):=by rw [IntKind.wrap_i64];omega
      have HN:Hid (zap m cur=zi m cur):=by show _=_;unfold zap;rw [if_pos ⟨HC.out,hcur.1,hcur.2⟩]
      have HQ:Hid ((pre++[cur])++zb7 m F r (zbS m F cur)=zb7 m F f b0):=by
       show _=_;have e2:zb7 m F (r+1) cur=cur :: zb7 m F r (zbS m F cur):=rfl;have:=heq.out;rw [e2] at this;rw [←this];simp
      have HI0:=zh hin;have HL1:=zh hlk1;have HDN:=zh hdn1;have HIE:=zh hie;clear hlk0 hlk1 heq hcur hin hdn1 hdn2 hie
      go_wp2_with fail
      refine (zcy cur wk (HMZ.out.below (hb1.trans hx)) HL.out).mono ?_;rintro e w2 ⟨vn,rfl,hMn⟩;have hMn':Hid (Mk wk w2 vn (zi m cur)):=by have:=hMn;rw [HN.out] at this;exact this
      clear hMn HN;have HM2:=zh (hM.out.more hMn'.out.ext);have hx2:Ext w1 w2:=HM2.out.ext;have hF2:zbs w2 gf F:=hF1.below hx2;obtain ⟨A2,c2,rfl,hc2,hr2⟩:=hMn'.out.ints;have HR2:=zh hr2;have hl6:=za5 m cur;have hlk2:=far_some hF2 HL1.out;clear hr2 hMn' hM hx hFr hlk
      go_wp2_with fail
      go_loopw [8,69] (fun b i wz=>∃j,j≤i0∧b=.int .i64 cur∧i=.int .i64 (j:Nat)∧w2=wz) (fun _ i _=>i0 - (intOf i).toNat)
      case atStart=>exact ⟨0,Nat.zero_le _,rfl,rfl,rfl⟩
      case round=>
       obtain ⟨j,hj,rfl,rfl,rfl⟩:=hrel;have hjl:j<(zi m cur).length:=by omega
       obtain ⟨b2,off2,rfl,_,hcell⟩:=zt HR2.out hjl hjl;by_cases hji:j<i0
       ·have hne:=HI0.out j hji;obtain ⟨x,hxx⟩:∃x,x=(zi m cur)[j]:=⟨_,rfl⟩;rw [←hxx] at hcell hne;clear hxx
        cases hxl:F.lookup x with
        | none=>
         have hlx:=zcJ hF2 hxl;clear hxl hne;go_wp2;go_roundw
         case rel=>exact ⟨j+1,by omega,by trivial,by go_num,by trivial⟩
         case measure=>simp [intOf];omega
        | some dx=>
         have hlx:=zcl hF2 hxl
         have hnx:(dx==(r:Int))=false:=by
          rw [beq_eq_false_iff_ne];intro e;exact hne (by rw [hxl,e])
         clear hxl hne;go_wp2;go_roundw
         case rel=>exact ⟨j+1,by omega,by trivial,by go_num,by trivial⟩
         case measure=>simp [intOf];omega
       ·obtain rfl:j=i0:=by omega
        rw [HIE.out] at hcell;obtain ⟨x,hxx⟩:∃x,x=zbS m F cur:=⟨_,rfl⟩;rw [←hxx] at hcell HDN HQ;clear hxx;have hlx:=zcl hF2 HDN.out;have hsame:((r:Int)==(r:Int))=true:=by simp
        have hpl:(pre++[cur]).length≤1000000:=by simp;omega
        obtain ⟨l,hl⟩:∃l,l=pre++[cur]:=⟨_,rfl⟩;rw [←hl] at HM2 HQ hpl;have hll:l.length=pre.length+1:=by rw [hl];simp
        clear hl
        go_wp2_with (at_builtin;refine zan rfl _ _ rfl _ l x w1.heap.size w2.heap.size 1 _ rfl rfl (HM2.out.own.alloc _) ?d1 ?d2 ?d3 ?_)
        (try case d1=>exact zm _ _ _ (by simp))
        case d2=>(first | (simp;done) | (have:=hx2.size;simp;omega) | (have:=hx2.size;omega))
        case d3=>omega
        intro v' wb hob hgb hbl;have hM':=zh ((HM2.out.alloc _).app hob hgb);clear hob hgb hbl;go_wp2
        go_roundg r
        case measure=>omega
        case rel=>exact ⟨l,x,rfl,hM',HDN,HQ,by omega⟩
end Go.Proofs.YthbjngbhbbkkgaaGreat
