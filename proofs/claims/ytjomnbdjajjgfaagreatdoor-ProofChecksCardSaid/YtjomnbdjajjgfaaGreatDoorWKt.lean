import Derived.Test.YtjomnbdjajjgfaaGreatDoorWKs
import Derived.Laws.EntriesVeiled
set_option linter.unusedVariables false
set_option linter.unusedSimpArgs false
set_option maxRecDepth 100000
set_option maxHeartbeats 16000000
namespace Go.Proofs.YtjomnbdjajjgfaaGreatDoor
variable {t:Int} {ch s:List Int} {m:MZ} {g g2 go gp tk:Nat} {ok okp:Nat->Prop} {p:PT} {a b c f ts u v vc vp vs:Value} {w:World}
section
open Go.RowKit
def reachLX (m:MZ) (t:Nat) (f us:List Int):List Int:=((List.range m.n.toNat).map Int.ofNat).filter fun x=>decide (x∈reachX m t f us)
def sideX (m:MZ) (ch:List Int) (t:Nat):List Int:=if Bq m=0/\t<m.tasks.length then reachLX m t (Aj m ch t) ch else []
theorem side_x (d:Dim m) (ch:List Int) (t:Nat):BI m ch t=sideX m ch t:=by
 unfold BI sideX Cf reachLX;by_cases h:Bq m=0/\t<m.tasks.length
 ·rw [if_pos h,if_pos ⟨h.1,by omega,by have:=h.2;omega⟩,reachL_x d]
  all_goals rfl
 ·rw [if_neg h,if_neg (fun o=>h ⟨o.1,by have:=o.2.2;omega⟩)]
def offX (m:MZ) (ch:List Int) (t:Nat):Bool:=!((sideX m ch t).any fun n=>decide (n∈(m.tasks.getD t ([],[])).2)) && (decide (sideX m ch t≠[]) || decide (zF m ch<t))
def cutX (m:MZ) (ch:List Int):Option Nat:=((List.range (m.tasks.length - zF m ch)).map (zF m ch+·)).find? (offX m ch)
theorem cut_x (d:Dim m) (ch:List Int):cutT m ch=cutX m ch:=by
 unfold cutT cutX;congr 1;funext t;unfold offB offX;rw [side_x d]
def proveX (m:MZ):Nat->List Int->Nat->Int×PT×Nat
 | 0,_,k=>(53,.zero,k)
 | f+1,ch,k=>
  if m.tasks.length<=zF m ch then (51,.zero,k)
  else if 3000<k+1 then (53,.zero,k+1)
  else match cutX m ch with
   | some t=>(0,.node t (sideX m ch t) [],k+1)
   | none=>
    let r:=zJ (fun n k=>proveX m f (ch++[n]) k) (zu m ch) (k+1) []
    if r.1=0 then (0,.node (zF m ch) [] r.2.1,r.2.2) else (r.1,.zero,r.2.2)
theorem prove_x {m:MZ} (d:Dim m):∀(f:Nat) (ch:List Int) (k:Nat),zj m f ch k=proveX m f ch k
 | 0,ch,k=>rfl
 | f+1,ch,k=>by
  unfold zj proveX;rw [cut_x d]
  have h:(fun n k=>zj m f (ch++[n]) k)=fun n k=>proveX m f (ch++[n]) k:=by
   funext n k;exact prove_x d f _ _
  rw [h];by_cases h1:m.tasks.length<=zF m ch
  ·rw [if_pos h1,if_pos h1]
  ·rw [if_neg h1,if_neg h1];by_cases h2:3000<k+1
   ·rw [if_pos h2,if_pos h2]
   ·rw [if_neg h2,if_neg h2]
    cases cutX m ch with
    | some t=>show (0,PT.node _ (BI m ch t) _,_)=(0,PT.node _ (sideX m ch t) _,_);rw [side_x d]
    | none=>rfl
def makeX (m:MZ):Int×PT:=if Bq m=0 then ((proveX m (m.n.toNat+2) [] 0).1,(proveX m (m.n.toNat+2) [] 0).2.1) else (Bq m,.zero)
theorem make_x (d:Dim m):AP m=makeX m:=by
 unfold AP makeX;rw [prove_x d]
def yP:PT:=.node 1 [] []
def yCut:PT:=.node 0 [] [.node 0 [] [.node 1 [1,2,5,8] []]]
def Cv:PT:=.node 0 [] [.node 0 [] [yP,yCut]]
theorem ym1:(makeX (exM 6 8)).1=51:=by decide +kernel
theorem ym2:makeX (exM 4 8)=(0,yP):=by kernel_rfl
theorem ym3:makeX (exM 1 7)=(0,Cv):=by kernel_rfl
theorem yk1:AR (exM 4 8) yP=true:=by decide +kernel
theorem yk2:AR (exM 6 8) yP=false:=by decide +kernel
theorem yk3:AR (exM 1 7) Cv=true:=by decide +kernel
theorem yk4:AR (exM 1 7) yP=false:=by decide +kernel
theorem yz:Cv.size=6:=by decide +kernel
theorem yl0:yP.Lens:=by simp [yP,PT.Lens,PT.LensL]
theorem yl1:Cv.Lens:=by simp [Cv,yP,yCut,PT.Lens,PT.LensL]
theorem yd1:decR (encP Cv)=(0,Cv):=by kernel_rfl
theorem yd2:(decR (encP Cv++[120])).1=4:=by decide +kernel
theorem yel:(encP Cv).length<=1000:=by decide +kernel
theorem yok:Cv.Ok:=by
 have h:∀x:Int,x∈[(1:Int),2,5,8]->I64 x:=by
  intro x o;simp only [EG,EN,or_false] at o;rcases o with rfl | rfl | rfl | rfl <;> exact ⟨by decide,by decide⟩
 have h0:I64 0:=⟨by decide,by decide⟩;have h1:I64 1:=⟨by decide,by decide⟩;simp [Cv,yP,yCut,PT.Ok,PT.OkL,h0,h1];exact ⟨h 2 (by simp),h 5 (by simp),h 8 (by simp)⟩
theorem ysp:Ck yP yP=true:=Do _
theorem zM.leaf (w:World) (ok:Nat->Prop) (t:Int):zM w ok (.agg #[.int .i64 t,.slice none 0 0,.slice none 0 0]) (.node t [] []):=
 .mk (cs:=[]) (zk.nil _ _) ⟨none,0,rfl,DR _,AE.nil _ _ _ _⟩ (fun i o=>absurd o (by simp))
theorem zM.one (t:Int) (o:zd w g 41 #[a,b,c]) (B:ok g) (h:zM w ok (.agg #[a,b,c]) p):zM w ok (.agg #[.int .i64 t,.slice none 0 0,.slice (some ⟨g,0,none⟩) 1 1]) (.node t [] [p]):=
 .mk (cs:=[a,b,c]) (zk.nil _ _) ⟨_,_,rfl,DR _,rfl,fun _=>⟨g,0,rfl,B,fun j u E=>by rw [Nat.zero_add];exact zd.cell (cs:=#[a,b,c]) o (by simpa using E)⟩⟩ (fun i D=>by
  match i,D with
  | 0,_=>exact h)
theorem zM.two {d e:Value} {q:PT} (t:Int) (B:zd w g 41 #[a,b,c,d,e,f]) (D:ok g) (h:zM w ok (.agg #[a,b,c]) p) (o:zM w ok (.agg #[d,e,f]) q):zM w ok (.agg #[.int .i64 t,.slice none 0 0,.slice (some ⟨g,0,none⟩) 2 2]) (.node t [] [p,q]):=
 .mk (cs:=[a,b,c,d,e,f]) (zk.nil _ _) ⟨_,_,rfl,DR _,rfl,fun _=>⟨g,0,rfl,D,fun j u G=>by rw [Nat.zero_add];exact zd.cell (cs:=#[a,b,c,d,e,f]) B (by simpa using G)⟩⟩ (fun i E=>by
  match i,E with
  | 0,_=>exact h
  | 1,_=>exact o)
theorem ywant_mem {W:World} {H:Nat} (b0:zd W H 3 #[.int .i64 1,.int .i64 2,.int .i64 5,.int .i64 8]) (b1:zd W (H+1) 41 #[.int .i64 1,.slice (some ⟨H,0,none⟩) 4 4,.slice none 0 0]) (b2:zd W (H+2) 41 #[.int .i64 0,.slice none 0 0,.slice (some ⟨H+1,0,none⟩) 1 1])
  (b4:zd W (H+4) 41 #[.int .i64 1,.slice none 0 0,.slice none 0 0,.int .i64 0,.slice none 0 0,.slice (some ⟨H+2,0,none⟩) 1 1]) (b5:zd W (H+5) 41 #[.int .i64 0,.slice none 0 0,.slice (some ⟨H+4,0,none⟩) 2 2]):
  zM W (fun b=>H<=b) (.agg #[.int .i64 0,.slice none 0 0,.slice (some ⟨H+5,0,none⟩) 1 1]) Cv:=by
 have h1:zM W (fun b=>H<=b) (.agg #[.int .i64 1,.slice (some ⟨H,0,none⟩) 4 4,.slice none 0 0]) (.node 1 [1,2,5,8] []):=
  .mk (cs:=[]) ⟨_,_,rfl,DR _,AE.block (cs:=#[.int .i64 1,.int .i64 2,.int .i64 5,.int .i64 8]) b0 (DR _) rfl⟩ ⟨none,0,rfl,DR _,AE.nil _ _ _ _⟩ (fun i o=>absurd o (by simp))
 exact .one 0 b5 (by omega) (.two 0 b4 (by omega) (.leaf _ _ 1) (.one 0 b2 (by omega) (.one 0 b1 (by omega) h1)))
end
section
open Go.RowKit
attribute [local go_sem ↓] Go.wp_at_zero Go.wp_at_succ
theorem indexFuncX_calls {l:List Int} (n:FuncId) (caps:Array Value) (p:Int->Bool) (w:World) (h:zk w ok v l) (hl:l.length<=20000000000000)
  (a2:∀(a:Array Value) (w:World),(callFunc n a).run Tryz.prog w=.ok (.enter n a) w)
  (hp:∀x∈l,∀w1,za w w1->Calls Tryz.prog n (#[.int .i64 x]++caps) w1 fun e w'=>e=.returned (.bool (p x))/\za w1 w'):
  Calls Tryz.prog 182 #[v,.func (.func n) #[] caps] w fun e w'=>∃r:Int,e=.returned (.int .i64 r)/\(0<=r↔l.any p=true)/\-1<=r/\za w w':=by
 obtain ⟨A,c,rfl,hc,hr⟩:=h;have HR:=zh hr;clear hr;have HP:=zh hp;clear hp
 go_enter Tryz.func182,Tryz.ntmps182
 go_wp2_with fail
 go_loopw [8] (fun i wr=>∃k:Nat,k<=l.length/\i=.int .i64 k/\Hid ((l.take k).any p=false)/\Hid (za w wr)) (fun i _=>l.length - (intOf i).toNat)
 case atStart=>exact ⟨0,Ef _,rfl,by simp [Hid],za.refl _⟩
 case round=>
  obtain ⟨k,hk,rfl,V,M⟩:=hrel;by_cases K:k<l.length
  ·obtain ⟨b,off,rfl,_,J⟩:=zE (HR.out.keep (zK.of_below M.out)) K K;obtain ⟨x,Q⟩:=EY (l[k]);rw [<-Q] at J;have O:x∈l:=by rw [Q];exact DS _
   have E:=zh (AH p K);rw [<-Q] at E;clear Q;have o:=zh (HP.out x O wr M.out);by_cases D:p x=true
   ·go_wp2_with fail
    refine o.out.mono ?_;rintro e w1 ⟨rfl,B⟩;rw [D];have G:=zh (M.out.trans B);clear B;have I:=zh D;clear D
    go_wp2_with fail
    go_ret;refine ⟨_,rfl,⟨fun _=>?_,fun _=>by omega⟩,by omega,G.out⟩;rw [ET];exact ⟨x,O,I.out⟩
   ·have L:p x=false:=by simpa using D
    clear D
    go_wp2_with fail
    refine o.out.mono ?_;rintro e w1 ⟨rfl,B⟩;rw [L];have G:=zh (M.out.trans B);clear B;have I:=zh L;clear L
    go_wp2_with fail
    go_roundw
    case rel=>exact ⟨k+1,by omega,by go_num,by
     show _=false;rw [E.out,V.out,I.out];rfl,G⟩
    case measure=>simp [intOf];omega
  ·obtain rfl:k=l.length:=by omega
   go_wp2;go_ret;have h:=V.out;rw [Ec] at h;refine ⟨_,rfl,⟨fun U=>by omega,fun U=>?_⟩,by omega,M.out⟩;rw [h] at U
   cases U
theorem BM {l:List (Int)} (n:FuncId) (caps:Array Value) (p:Int->Bool) (w:World) (h:zk w ok v l) (I:l.length<=20000000000000) (B:∀(a:Array Value) (w:World),(callFunc n a).run Tryz.prog w=.ok (.enter n a) w)
  (hp:∀x∈l,∀w1,za w w1->Calls Tryz.prog n (#[.int .i64 x]++caps) w1 fun e w'=>e=.returned (.bool (p x))/\za w1 w'):
  Calls Tryz.prog 128 #[v,.func (.func n) #[] caps] w fun e w'=>e=.returned (.bool (l.any p))/\za w w':=by
 have H:=zh (indexFuncX_calls n caps p w h I B hp);clear hp;obtain ⟨A,c,rfl,K,o⟩:=h;clear o
 go_enter Tryz.func128,Tryz.ntmps128
 go_wp2_with fail
 refine H.out.mono ?_;rintro e w1 ⟨r,rfl,o,J,D⟩;have G:=zh o;clear o;have E:=zh D;clear D
 go_wp2_with fail
 go_ret;refine ⟨zi ?_,E.out⟩;rw [Bool.eq_iff_iff,decide_eq_true_iff];exact G.out
structure CutV (w:World) (ok okp:Nat->Prop) (g2 gp go:Nat) (m:MZ) (f u ts vc vp:Value) (ch:List Int) (t:Int) (tk:Nat) (vs:Value) (s:List Int):Prop where
 st:PSt w ok m f u ts vc vp ch
 c0:w.cell? ⟨g2,0,none⟩=some (.int .i64 m.w)
 c1:w.cell? ⟨g2,1,none⟩=some (.int .i64 m.h)
 c2:w.cell? ⟨g2,2,none⟩=some (.int .i64 m.l)
 c3:w.cell? ⟨g2,3,none⟩=some f
 c4:w.cell? ⟨g2,4,none⟩=some u
 c5:w.cell? ⟨g2,5,none⟩=some ts
 c6:w.cell? ⟨g2,6,none⟩=some vc
 c7:w.cell? ⟨g2,7,none⟩=some vp
 c8:w.cell? ⟨g2,8,none⟩=some (.int .i64 t)
 p0:w.cell? ⟨gp,0,none⟩=some (.int .i64 tk)
 p1:w.cell? ⟨gp,1,none⟩=some vs
 sd:zk w okp vs s
 o0:w.cell? ⟨go,0,none⟩=some (.func (.func 188) #[] #[.pointer (some ⟨gp,0,none⟩)])
theorem CutV.more {w w':World} {ok okp:Nat->Prop} {g2 gp go:Nat} {m:MZ} {f u ts vc vp:Value} {ch:List Int} {t:Int} {tk:Nat} {vs:Value} {s:List Int} (h:CutV w ok okp g2 gp go m f u ts vc vp ch t tk vs s) (o:za w w'):CutV w' ok okp g2 gp go m f u ts vc vp ch t tk vs s:=
 ⟨h.st.more o,o.cell h.c0,o.cell h.c1,o.cell h.c2,o.cell h.c3,o.cell h.c4,o.cell h.c5,o.cell h.c6,o.cell h.c7,o.cell h.c8,o.cell h.p0,o.cell h.p1,h.sd.below o,o.cell h.o0⟩
theorem cut1_calls (x:Int) (w:World) (h1:w.cell? ⟨gp,1,none⟩=some vs) (o:zk w ok vs s) (D:s.length<=20000000000000):
  Calls Tryz.prog 188 #[.int .i64 x,.pointer (some ⟨gp,0,none⟩)] w fun e w'=>e=.returned (.bool (!decide (x∈s)))/\w=w':=by
 have B:=zh o;obtain ⟨As,cs,rfl,-,-⟩:=o
 go_enter Tryz.func188,Tryz.ntmps188
 go_wp2_with fail
 refine (Ai x w B.out D).mono ?_;rintro e w9 ⟨rfl,rfl⟩
 go_wp2_with fail
 go_ret;exact ⟨rfl,rfl⟩
theorem cut21_calls (x:Int) (w:World) (h:CutV w ok okp g2 gp go m f u ts vc vp ch t tk vs s) (g:AN m) (B:ch.length<=20000000000000) (D:tk<m.free.length) (h0:0<=x) (h1:x<m.n) (G:s.length<=20000000000000):
  Calls Tryz.prog 190 #[.int .i64 x,.pointer (some ⟨g2,0,none⟩),.pointer (some ⟨gp,0,none⟩),.pointer (some ⟨go,0,none⟩)] w fun e w'=>e=.returned (.bool ((ze m tk x && !decide (x∈ch)) && !decide (x∈s)))/\za w w':=by
 have E:=zh (popen_calls t tk x w h.st g B D h0 h1);have I:Hid (∀w9,za w w9->Calls Tryz.prog 188 #[.int .i64 x,.pointer (some ⟨gp,0,none⟩)] w9 fun e w'=>e=.returned (.bool (!decide (x∈s)))/\w9=w'):=fun w9 J=>cut1_calls x w9 (J.cell h.p1) (h.sd.below J) G
 obtain ⟨c0,c1,c2,c3,c4,c5,c6,c7,c8,p0,p1,o0⟩:=(⟨h.c0,h.c1,h.c2,h.c3,h.c4,h.c5,h.c6,h.c7,h.c8,h.p0,h.p1,h.o0⟩:_/\_/\_/\_/\_/\_/\_/\_/\_/\_/\_/\_);clear h D h0 h1 g B;unfold DJ at E;generalize (ze m tk x && !decide (x∈ch))=b at E⊢;generalize (!decide (x∈s))=d at I⊢
 go_enter Tryz.func190,Tryz.ntmps190
 go_wp2_with fail
 refine E.out.mono ?_;rintro e w1 ⟨rfl,o⟩;have o1:=o.cell o0;clear c0 c1 c2 c3 c4 c5 c6 c7 c8 p0 p1 o0 E
 cases b with
 | false=>
  go_wp2_with fail
  go_ret;exact ⟨rfl,o⟩
 | true=>
  go_wp2_with fail
  refine (I.out w1 o).mono ?_;rintro e w2 ⟨rfl,rfl⟩
  go_wp2_with fail
  go_ret;exact ⟨by simp,o⟩
theorem cut2_calls (x:Int) (w:World) (h:CutV w ok okp g2 gp go m f u ts vc vp ch t tk vs s) (g:AN m) (M:Lens m) (B:ch.length<=20000000000000) (D:tk<m.free.length) (K:s.length<=20000000000000):
  Calls Tryz.prog 189 #[.int .i64 x,.pointer (some ⟨g2,0,none⟩),.pointer (some ⟨gp,0,none⟩),.pointer (some ⟨go,0,none⟩)] w fun e w'=>e=.returned (.bool ((Bh m x).any fun k=>(ze m tk k && !decide (k∈ch)) && !decide (k∈s)))/\za w w':=by
 have H:=zh h;have L:=zh (rNext_calls x w h.st.maze M)
 have E:Hid (∀w9 v9,za w w9->zk w9 (fun _=>True) v9 (Bh m x)->Calls Tryz.prog 128 #[v9,.func (.func 190) #[] #[.pointer (some ⟨g2,0,none⟩),.pointer (some ⟨gp,0,none⟩),.pointer (some ⟨go,0,none⟩)]] w9 fun e w'=>e=.returned (.bool ((Bh m x).any fun k=>(ze m tk k && !decide (k∈ch)) && !decide (k∈s)))/\za w9 w'):=fun w9 v9 U hv=>
  BM 190 _ _ w9 hv (by have:=nextO_len m x;omega) (AW Tryz.func190 rfl rfl) fun y hy w8 Q=>by
   have O:=nextO_rng g hy;exact cut21_calls y w8 (H.out.more (U.trans Q)) g B D O.1 O.2 K
 obtain ⟨c0,c1,c2,c3,c4,c5⟩:=(⟨h.c0,h.c1,h.c2,h.c3,h.c4,h.c5⟩:_/\_/\_/\_/\_/\_);clear h g B D M;generalize V:((Bh m x).any fun k=>(ze m tk k && !decide (k∈ch)) && !decide (k∈s))=R at E⊢;clear V
 go_enter Tryz.func189,Tryz.ntmps189
 go_wp2_with fail
 refine L.out.mono ?_;rintro e w1 ⟨v1,rfl,o⟩;have I:=zh o.ext;have G:=zh (E.out w1 v1 o.ext (o.ints.weaken fun _ _=>trivial));obtain ⟨A1,k1,rfl,-⟩:=o.slice;clear o E L H c0 c1 c2 c3 c4 c5
 go_wp2_with fail
 refine G.out.mono ?_;rintro e w2 ⟨rfl,J⟩
 go_wp2_with fail
 go_ret;exact ⟨rfl,I.out.trans J⟩
theorem step_last {N:Int} {tg:List Int} {k:Nat} (B:∀j,j<k->BC N tg s j):BC N tg s k↔((-1:Int) :: s).getD k 0<s.getD k 0/\s.getD k 0<N/\s.getD k 0∉tg:=by
 unfold BC
 cases k with
 | zero=>
  rw [List.getD_cons_zero];constructor
  ·rintro ⟨h1,h2,-,o⟩;exact ⟨by omega,h2,o⟩
  ·rintro ⟨h1,h2,h3⟩;exact ⟨by omega,h2,fun h=>by omega,h3⟩
 | succ k=>
  rw [List.getD_cons_succ];have h0:=(B k (by omega)).1;constructor
  ·rintro ⟨h1,h2,h3,o⟩;exact ⟨h3 (by omega),h2,o⟩
  ·rintro ⟨h1,h2,h3⟩;exact ⟨by omega,h2,fun _=>h1,h3⟩
theorem wall_any (m:MZ) (ch:List Int) (t:Nat) (s:List Int):wallB m ch t s=!(s.any fun n=>(Bh m n).any fun k=>(ze m t k && !decide (k∈ch)) && !decide (k∈s)):=by
 unfold wallB;rw [List.not_any_eq_all_not];congr 1;funext n;rw [List.not_any_eq_all_not];congr 1;funext k
 cases (ze m t k && !decide (k∈ch)) <;> simp
theorem pcut_calls {vpr:Value} (w:World) (h:PSt w ok m f u ts vc vp ch) (hl:Lens m) (hc:Bq m=0) (hi:zy m ch) (hp:zM w okp vpr p) (a7:p.side.length<=20000000000000):
  Calls Tryz.prog 132 #[DJ m f u ts vc vp (zF m ch),vpr] w fun e w'=>e=.returned (.bool (cutB m ch p.task p.side p.kids.length))/\za w w':=by
 have H:=zh h;have HL:=zh hl;have HC:=zh hc;have HI:=zh hi;have G:=zh (AN.of hc);have j6:=(zU hc hi).2.2.1;obtain ⟨Af,cf,Au,cu,At,ct,Ac,cc,Ap,cp,rfl,rfl,rfl,rfl,rfl,-,f2⟩:=h.parts;have h7:=zh f2;obtain ⟨As,cs,Ak,ck,rfl,Q⟩:=hp.form;have a0:=zh Q;have k3:=hl.ts;clear h hl hc hi hp f2;obtain ⟨R,hR⟩:=EY (cutB m ch p.task p.side p.kids.length);rw [<-hR];have a2:=zh hR;obtain ⟨tk,d5⟩:=EY p.task;obtain ⟨s,hs⟩:=EY p.side;obtain ⟨nk,c7⟩:=EY p.kids.length;rw [<-d5,<-hs,<-c7] at a2;rw [<-hs] at a0 Q a7;rw [<-d5,<-hs,<-c7];clear hR d5 hs c7;obtain ⟨c,b7⟩:=EY (zF m ch);rw [<-b7];have d8:=zh b7;obtain ⟨PL,b0⟩:=EY ((zm m ch).length);rw [<-b0] at H⊢;clear b7 b0;have h5:=zh (show AE w okp 1 As s.length (s.map (Value.int .i64)) from by obtain ⟨A',c',e,-,h⟩:=a0.out;injection e with e1 e2 e3;rw [e1];exact h);clear Q;unfold DJ
 go_enter Tryz.func132,Tryz.ntmps132
 go_upto_region 1 with fail;obtain ⟨M,r0,r1,r2,r3,r4,r5,r6,r7,r8⟩:=box9 w (.int .i64 m.w) (.int .i64 m.h) (.int .i64 m.l) (.slice Af m.free.length cf) (.slice Au m.up.length cu) (.slice At m.tasks.length ct) (.slice Ac ch.length cc) (.slice Ap PL cp) (.int .i64 c);have d4:(w.alloc (.cells #[.int .i64 m.w,.int .i64 m.h,.int .i64 m.l,.slice Af m.free.length cf,.slice Au m.up.length cu,.slice At m.tasks.length ct,.slice Ac ch.length cc,.slice Ap PL cp,.int .i64 c] 107)).heap.size=w.heap.size+1:=by simp
 generalize w.alloc _=w0 at M r0 r1 r2 r3 r4 r5 r6 r7 r8 d4⊢;obtain ⟨O,p0,p1,p2⟩:=box3 w0 (.int .i64 tk) (.slice As s.length cs) (.slice Ak nk ck);generalize w0.alloc _=w1 at O p0 p1 p2⊢;rw [d4] at p0 p1 p2;obtain ⟨gm,e4⟩:=EY w.heap.size;rw [<-e4] at r0 r1 r2 r3 r4 r5 r6 r7 r8 p0 p1 p2⊢;have E:=zh O;have U:=zh (M.trans O);have r0:=fun W h=>r0 W (E.out.trans h)
 have r1:=fun W h=>r1 W (E.out.trans h)
 have r2:=fun W h=>r2 W (E.out.trans h)
 have r3:=fun W h=>r3 W (E.out.trans h)
 have r4:=fun W h=>r4 W (E.out.trans h)
 have r5:=fun W h=>r5 W (E.out.trans h)
 have r6:=fun W h=>r6 W (E.out.trans h)
 have r7:=fun W h=>r7 W (E.out.trans h)
 have r8:=fun W h=>r8 W (E.out.trans h)
 clear e4 M O d4;have hx:za w1 w1:=za.refl w1;obtain ⟨bad,b3⟩:∃bad:Bool,bad=decide (tk<c\/(m.tasks.length:Int)<=tk\/(tk=c/\s=[])\/nk≠0):=⟨_,rfl⟩;have D:=zh b3;clear b3;go_cut [41] (fun v wx=>v=.bool bad/\w1=wx)
 case first=>
  by_cases h1:tk<(c:Int)
  ·have J:Hid (bad=true):=by (show _=_);rw [D.out];exact DU (.inl h1)
   go_wp2_with fail
   go_meet;exact ⟨by rw [J.out],rfl⟩
  ·by_cases h2:(m.tasks.length:Int)<=tk
   ·have J:Hid (bad=true):=by (show _=_);rw [D.out];exact DU (.inr (.inl h2))
    go_wp2_with fail
    go_meet;exact ⟨by rw [J.out],rfl⟩
   ·by_cases h3:tk=(c:Int)
    ·have h8:(tk==(c:Int))=true:=by rw [beq_iff_eq];exact h3
     by_cases h4:s=[]
     ·have J:Hid (bad=true):=by (show _=_);rw [D.out];exact DU (.inr (.inr (.inl ⟨h3,h4⟩)))
      have i0:((s.length:Int)==0)=true:=by rw [h4];rfl
      clear h3 h4
      go_wp2_with fail
      go_meet;exact ⟨by rw [J.out],rfl⟩
     ·have J:Hid (bad=decide (0<nk)):=by
       (show _=_)
       rw [D.out,decide_eq_decide];constructor
       ·rintro (h | h | h | h)
        ·exact absurd h h1
        ·exact absurd h h2
        ·exact absurd h.2 h4
        ·omega
       ·intro h;exact .inr (.inr (.inr (by omega)))
      have i0:((s.length:Int)==0)=false:=by
       rw [Ee];intro h;exact h4 (Ei (by omega))
      clear h3 h4
      go_wp2_with fail
      go_meet;refine ⟨?_,rfl⟩;rw [J.out]
      all_goals (first | rfl | (congr 1;done) | (congr 1;rw [decide_eq_decide];omega))
    ·have h8:(tk==(c:Int))=false:=by rw [Ee];exact h3
     have J:Hid (bad=decide (0<nk)):=by
      (show _=_)
      rw [D.out,decide_eq_decide];constructor
      ·rintro (h | h | h | h)
       ·exact absurd h h1
       ·exact absurd h h2
       ·exact absurd h.1 h3
       ·omega
      ·intro h;exact .inr (.inr (.inr (by omega)))
     clear h3
     go_wp2_with fail
     go_meet;refine ⟨?_,rfl⟩;rw [J.out]
     all_goals (first | rfl | (congr 1;done) | (congr 1;rw [decide_eq_decide];omega))
 case rest=>
  obtain ⟨rfl,rfl⟩:=hcut
  cases bad with
  | true=>
   have HF:Hid (R=false):=by
    (show _=_)
    have:=EV D.out.symm;rw [d8.out] at this;rw [a2.out];unfold cutB;rw [if_pos this]
   go_wp2_with fail
   go_ret;exact ⟨zi HF.out.symm,U.out⟩
  | false=>
   have e7:=of_decide_eq_false D.out.symm
   have HF:Hid (R=(incB m.n (-1) s && (!(s.any fun n=>decide (n∈(m.tasks.getD tk.toNat ([],[])).2)) && ((Aj m ch tk.toNat).all (fun n=>decide (n∈s)) && wallB m ch tk.toNat s)))):=by
    (show _=_)
    have:=e7;rw [d8.out] at this;rw [a2.out];unfold cutB;rw [if_neg this]
   obtain ⟨t,ht⟩:∃t:Nat,tk=t:=⟨tk.toNat,by omega⟩;subst ht;rw [Int.toNat_natCast] at HF;have f1:t<m.tasks.length:=by omega
   have I:=zh f1;have k1:(t:Int)<(m.tasks.length:Int):=by omega
   have k0:(0:Int)<=(t:Int):=by omega
   clear e7 D a2;have j9:=G.out.dim.n1;have j0:=G.out.dim.layer;have j2:IntKind.i64.wrap (m.w*m.h)=m.w*m.h:=by rw [Em];omega
   have j3:IntKind.i64.wrap (m.w*m.h*m.l)=m.w*m.h*m.l:=by rw [Em];omega
   have a3:Hid ((incB m.n (-1) s && !(s.any fun n=>decide (n∈(m.tasks.getD t ([],[])).2)))=true↔∀i,i<s.length->BC m.n (m.tasks.getD t ([],[])).2 s i):=side_iff;obtain ⟨bt,offt,sn,u1,u2,rfl,-,-,-,b4,-,c0⟩:=Bm h7.out I.out;have i9:=(HL.out.tl _ (DS I.out)).2;have d9:Hid ((m.tasks.getD t ([],[])).2=(m.tasks[t]'I.out).2):=by (show _=_);rw [DP,DO I.out];rfl
   obtain ⟨tg,e9⟩:=EY ((m.tasks[t]'I.out).2);rw [<-e9] at c0 i9 d9;rw [d9.out] at a3 HF;have h6:=zh (c0.below U.out);obtain ⟨Atg,ctg,rfl,-,-⟩:=c0;have rtg:=za.rule (U.out.cell b4);clear e9 b4
   go_wp2_with fail
   go_loopw [5,45] (fun lv i wr=>∃k:Nat,k<=s.length/\i=.int .i64 k/\lv=.int .i64 (((-1:Int) :: s).getD k 0)/\Hid (∀j,j<k->BC m.n tg s j)/\w1=wr) (fun _ i _=>s.length - (intOf i).toNat)
   case atStart=>exact ⟨0,Ef _,rfl,rfl,fun j hj=>by omega,rfl⟩
   case round=>
    obtain ⟨k,hk,rfl,rfl,a6,rfl⟩:=hrel;by_cases a5:k<s.length
    ·have j1:(k:Int)<(s.length:Int):=by omega
     have kk0:(0:Int)<=(k:Int):=by omega
     obtain ⟨bs,offs,rfl,-,b8⟩:=zE h5.out a5 a5;have b9:s.getD k 0=s[k]:=zgd a5
     have a8:=step_last a6.out;have c8:((-1:Int) :: s).getD (k+1) 0=s.getD k 0:=List.getD_cons_succ ..;obtain ⟨x,f4⟩:=EY (s[k]);rw [<-f4] at b8 b9;rw [b9] at a8 c8;obtain ⟨y,f5⟩:=EY (((-1:Int) :: s).getD k 0);rw [<-f5] at a8⊢;have g8:=zh c8;have rx:=za.rule (U.out.cell b8)
     obtain ⟨ob,c9⟩:∃ob:Bool,ob=true↔BC m.n tg s k:=by
      by_cases h:BC m.n tg s k
      ·exact ⟨true,by simp [h]⟩
      ·exact ⟨false,by simp [h]⟩
     have b6:Hid (ob=true↔y<x/\x<m.n/\x∉tg):=c9.trans a8;have a9:=zh c9;clear b8 b9 f4 c9 a8 c8 f5;go_upto_region 7 with fail;go_cut [78] (fun v wx=>v=.bool (!ob)/\w1=wx)
     case first=>
      by_cases h1:x<=y
      ·have J:Hid (ob=false):=by (show _=_);rw [<-Bool.not_eq_true,b6.out];omega
       go_wp2_with fail
       go_meet;exact ⟨by rw [J.out];rfl,rfl⟩
      ·by_cases h2:m.w*m.h*m.l<=x
       ·have J:Hid (ob=false):=by (show _=_);rw [<-Bool.not_eq_true,b6.out];unfold MZ.n;omega
        go_wp2_with fail
        go_meet;exact ⟨by rw [J.out];rfl,rfl⟩
       ·have J:Hid (ob=!decide (x∈tg)):=by
         (show _=_)
         rw [Bool.eq_iff_iff,b6.out,Bool.not_eq_true',Eo];exact ⟨fun h=>h.2.2,fun h=>⟨by omega,by unfold MZ.n;omega,h⟩⟩
        go_wp2_with fail
        refine (Ai x w1 h6.out (by omega)).mono ?_;rintro e w9 ⟨rfl,rfl⟩
        go_wp2_with fail
        go_meet;exact ⟨by rw [J.out];simp,rfl⟩
     case rest=>
      obtain ⟨rfl,rfl⟩:=hcut
      cases ob with
      | false=>
       have V:Hid (R=false):=by
        (show _=_)
        have h:¬ ∀i,i<s.length->BC m.n tg s i:=fun h=>absurd (a9.out.2 (h k a5)) (by simp)
        rw [HF.out,<-Bool.and_assoc,Bool.eq_false_iff.2 (fun h2=>h (a3.out.1 h2)),Bool.false_and]
       go_wp2_with fail
       go_ret;exact ⟨zi V.out.symm,U.out⟩
      | true=>
       have e8:Hid (∀j,j<k+1->BC m.n tg s j):=fun j hj=>by
        rcases En j k with h | h
        ·exact a6.out j h
        ·obtain rfl:j=k:=by omega
         exact a9.out.1 rfl
       go_wp2_with fail
       go_roundw
       case rel=>exact ⟨k+1,by omega,by go_num,by rw [g8.out],e8,trivial⟩
       case measure=>simp [intOf];omega
    ·obtain rfl:k=s.length:=by omega
     have a1:Hid (R=((Aj m ch t).all (fun n=>decide (n∈s)) && wallB m ch t s)):=by
      (show _=_)
      rw [HF.out,<-Bool.and_assoc,a3.out.2 a6.out,Bool.true_and]
     clear a6 HF a3;have g6:=zh (headP_le HL.out (ch:=ch) I.out);generalize ((-1:Int) :: s).getD s.length 0=lst;go_upto_region 12 with fail;have a4:=zd.new w1 #[.func (.func 188) #[] #[.pointer (some ⟨gm+1,0,none⟩)]] 141 (g:=w1.heap.size) rfl;have o:za w1 (w1.alloc (.cells #[.func (.func 188) #[] #[.pointer (some ⟨gm+1,0,none⟩)]] 141)):=(za.refl w1).alloc _;generalize w1.alloc _=w5 at a4 o⊢;obtain ⟨go,e5⟩:∃g,g=w1.heap.size:=⟨_,rfl⟩;rw [<-e5] at a4⊢;clear e5;have g0:=za.rule (a4.cell (k:=0) rfl);have L:Hid (za w w5):=U.out.trans o;have r0:=fun W h=>r0 W (o.trans h)
     have r1:=fun W h=>r1 W (o.trans h)
     have r2:=fun W h=>r2 W (o.trans h)
     have r3:=fun W h=>r3 W (o.trans h)
     have r4:=fun W h=>r4 W (o.trans h)
     have r5:=fun W h=>r5 W (o.trans h)
     have r6:=fun W h=>r6 W (o.trans h)
     have r7:=fun W h=>r7 W (o.trans h)
     have r8:=fun W h=>r8 W (o.trans h)
     have p0:=fun W h=>p0 W (o.trans h)
     have p1:=fun W h=>p1 W (o.trans h)
     have B:za w5 w5:=za.refl w5;have f0:t<m.free.length:=by rw [G.out.fl];exact I.out
     have g4:Hid (CutV w5 ok okp gm (gm+1) go m _ _ _ _ _ ch (c:Int) t _ s):=⟨H.out.more L.out,r0 _ B,r1 _ B,r2 _ B,r3 _ B,r4 _ B,r5 _ B,r6 _ B,r7 _ B,r8 _ B,p0 _ B,p1 _ B,a0.out.below L.out,g0 _ B⟩;have g9:=zh p1
     have g5:Hid (∀W,za w5 W->Calls Tryz.prog 171 #[.agg #[.int .i64 m.w,.int .i64 m.h,.int .i64 m.l,.slice Af m.free.length cf,.slice Au m.up.length cu,.slice (some ⟨bt,offt,none⟩) m.tasks.length ct,.slice Ac ch.length cc,.slice Ap PL cp,.int .i64 (c:Nat)],.int .i64 (t:Nat)] W fun e w'=>∃A c',e=.returned (.slice A (Aj m ch t).length c')/\za W w'/\zk w' (fun _=>True) (.slice A (Aj m ch t).length c') (Aj m ch t)):=fun W hW=>by
      refine (phead_calls (c:Int) t W (H.out.more (L.out.trans hW)) HL.out HC.out HI.out I.out).mono ?_;rintro e w' ⟨v',rfl,i1,hv⟩;obtain ⟨A,c',rfl,-,-⟩:=id hv;exact ⟨A,c',rfl,i1,hv⟩
     obtain ⟨b1,M⟩:=EY ((Aj m ch t).all fun n=>decide (n∈s))
     have g3:Hid (∀(W:World) (v9:Value),za w5 W->zk W (fun _=>True) v9 (Aj m ch t)->Calls Tryz.prog 128 #[v9,.func (.func 188) #[] #[.pointer (some ⟨gm+1,0,none⟩)]] W fun e w'=>e=.returned (.bool (!b1))/\za W w'):=fun W v9 hW hv=>by
      have h:=BM 188 #[.pointer (some ⟨gm+1,0,none⟩)] (fun x=>!decide (x∈s)) W hv g6.out (AW Tryz.func188 rfl rfl) (fun x _ w9 h9=>by
       refine (cut1_calls x w9 (g9.out w9 (hW.trans h9)) (a0.out.below (L.out.trans (hW.trans h9))) a7).mono ?_;rintro e w' ⟨rfl,rfl⟩;exact ⟨rfl,za.refl _⟩)
      rw [<-List.not_all_eq_any_not,<-M] at h;exact h
     have d7:Hid (∀W,za w5 W->Calls Tryz.prog 128 #[.slice As s.length cs,.func (.func 189) #[] #[.pointer (some ⟨gm,0,none⟩),.pointer (some ⟨gm+1,0,none⟩),.pointer (some ⟨go,0,none⟩)]] W fun e w'=>e=.returned (.bool (!wallB m ch t s))/\za W w'):=fun W hW=>by
      have h:=BM 189 #[.pointer (some ⟨gm,0,none⟩),.pointer (some ⟨gm+1,0,none⟩),.pointer (some ⟨go,0,none⟩)] (fun n=>(Bh m n).any fun k=>(ze m t k && !decide (k∈ch)) && !decide (k∈s)) W (a0.out.below (L.out.trans hW)) a7 (AW Tryz.func189 rfl rfl) (fun x _ w9 h9=>cut2_calls x w9 (g4.out.more (hW.trans h9)) G.out HL.out (by omega) f0 a7);rw [wall_any,Bool.not_not];exact h
     rw [<-M] at a1;obtain ⟨b2,O⟩:=EY (wallB m ch t s);rw [<-O] at d7 a1;clear M O o a4;have j8:∀(fn:Fn) (first cap:Array Value) (w:World),(Instr.makeFunc fn first cap).run Tryz.prog w=.ok (.func fn first cap) w:=fun _ _ _ _=>rfl
     refine Eh (S:=(fun W=>za w5 W)) zI (B.drew) fun zH=>?_;have i5:za w5 w5.drew:=zH;clear i5;generalize w5.drew=wd at zH⊢;refine zg 0 zH ?_;refine zg 1 zH ?_;simp only [zb,DN];refine zg 2 zH ?_;refine zg 4 zH ?_;simp only [zb,DN];refine AD 3 fun K hK=>?_;go_simp;go_at_call 171;refine (g5.out _ zH).mono ?_;rintro e w6 ⟨A6,c6,rfl,i2,e6⟩;have g7:=zh e6;clear e6;go_simp;refine EZ hK (zH.trans i2) fun zH=>?_;clear hK K;try simp only [zb,DN]
     refine AD 5 fun K hK=>?_;go_simp;go_at_call 128;refine (g3.out _ _ zH g7.out).mono ?_;rintro e w7 ⟨rfl,i3⟩;go_simp;refine EZ hK (zH.trans i3) fun zH=>?_;clear hK K;try simp only [zb,DN]
     refine Ev (by kernel_rfl) ?_ _
     cases b1 with
     | false=>
      have V:Hid (R=false):=by (show _=_);rw [a1.out];rfl
      go_wp2_with fail
      go_ret;exact ⟨zi V.out.symm,L.out.trans zH⟩
     | true=>
      have V:Hid (R=b2):=by (show _=_);rw [a1.out];rfl
      have f3:za w5 w7:=zH
      go_wp2_with fail
      refine (d7.out _ f3).mono ?_;rintro e w8 ⟨rfl,i4⟩
      go_wp2_with fail
      go_ret;exact ⟨zi V.out.symm,(L.out.trans f3).trans i4⟩
theorem pholds_calls {m:MZ} (hl:Lens m) (hc:Bq m=0):∀(N:Nat) (ok okp:Nat->Prop) (f u ts vc vp vpr:Value) (ch:List Int) (p:PT) (w:World),PSt w ok m f u ts vc vp ch->zy m ch->zM w okp vpr p->p.size<=N->p.Lens->
  Calls Tryz.prog 64 #[DJ m f u ts vc vp (zF m ch),vpr] w fun e w'=>e=.returned (.bool (AU m p ch))/\za w w'
 | 0,ok,okp,f,u,ts,vc,vp,vpr,ch,.node t s ks,w,_,_,_,hN,_=>by unfold PT.size at hN;omega
 | N+1,ok,okp,f,u,ts,vc,vp,vpr,ch,.node tk s ks,w,h,hi,hp,hN,g0=>by
  have IH:=zh (pholds_calls hl hc N);have H:=zh h;have HL:=zh hl;have HC:=zh hc;have HI:=zh hi;have HP:=zh hp;have j4:=zh (zU hc hi);have O:Hid (∀W,za w W->Calls Tryz.prog 131 #[DJ m f u ts vc vp (zF m ch)] W fun e w'=>e=.returned (.bool (decide ((m.tasks.length:Int)<=(zF m ch:Int))))/\za W w'):=fun W hW=>Dt _ W (h.more hW)
  unfold PT.Lens at g0;obtain ⟨i5,j8,f9⟩:=g0;have Q:Hid (∀W,za w W->Calls Tryz.prog 132 #[DJ m f u ts vc vp (zF m ch),vpr] W fun e w'=>e=.returned (.bool (cutB m ch tk s ks.length))/\za W w'):=fun W hW=>pcut_calls W (h.more hW) hl hc hi (hp.ext hW) i5
  have b1:Hid (∀n,zy m (ch++[n])->∀W,za w W->Calls Tryz.prog 134 #[DJ m f u ts vc vp (zF m ch),.int .i64 n] W fun e w'=>∃vc' vp',e=.returned (DJ m f u ts vc' vp' (zF m (ch++[n])))/\za W w'/\PSt w' (fun b=>ok b\/W.heap.size<=b) m f u ts vc' vp' (ch++[n])):=fun n hn W hW=>pnext_calls _ n W (h.more hW) hl hc hn (zU hc hi).2.2.1
  have e4:Hid (∀W,za w W->Calls Tryz.prog 133 #[.agg #[.int .i64 m.w,.int .i64 m.h,.int .i64 m.l,f,u,ts],vc] W fun e w'=>∃v',e=.returned v'/\Mk W w' v' (zu m ch)):=fun W hW=>CV W ((h.more hW).maze) hl ((h.more hW).chs) (by have:=(zU hc hi).2.2.1;omega)
  unfold DJ at O Q b1;obtain ⟨Af,cf,Au,cu,At,ct,Ac,cc,Ap,cp,rfl,rfl,rfl,rfl,rfl,-,-⟩:=h.parts;obtain ⟨R,hR⟩:=EY (AU m (.node tk s ks) ch);rw [<-hR];have d4:=zh hR;have g8:=zh (CA f9);have h5:Hid (∀k∈ks,k.size<=PT.sizeL ks):=size_mem;unfold PT.size at hN
  cases hp with
  | mk hs hk he=>
   rename_i vs vk cs
   obtain ⟨As,cs',rfl,-,-⟩:=hs;obtain ⟨Ak,ck,rfl,j6,g1⟩:=hk;have g9:=zh g1;have g6:=zh he;clear h hl hc hi hR f9 g1 he;obtain ⟨c,d7⟩:=EY (zF m ch);have c6:=zh d7;rw [<-d7] at O Q b1⊢;obtain ⟨PL,b6⟩:=EY ((zm m ch).length);rw [<-b6] at O Q b1⊢;clear d7 b6 H;unfold DJ
   go_enter Tryz.func64,Tryz.ntmps64
   go_upto_region 1 with fail;obtain ⟨d6,r0,r1,r2,r3,r4,r5,r6,r7,r8⟩:=box9 w (.int .i64 m.w) (.int .i64 m.h) (.int .i64 m.l) (.slice Af m.free.length cf) (.slice Au m.up.length cu) (.slice At m.tasks.length ct) (.slice Ac ch.length cc) (.slice Ap PL cp) (.int .i64 c);have e0:(w.alloc (.cells #[.int .i64 m.w,.int .i64 m.h,.int .i64 m.l,.slice Af m.free.length cf,.slice Au m.up.length cu,.slice At m.tasks.length ct,.slice Ac ch.length cc,.slice Ap PL cp,.int .i64 c] 107)).heap.size=w.heap.size+1:=by simp
   generalize w.alloc _=w0 at d6 r0 r1 r2 r3 r4 r5 r6 r7 r8 e0⊢;obtain ⟨b3,p0,p1,p2⟩:=box3 w0 (.int .i64 tk) (.slice As s.length cs') (.slice Ak ks.length ck);generalize w0.alloc _=w1 at b3 p0 p1 p2⊢;rw [e0] at p0 p1 p2;obtain ⟨gm,f7⟩:=EY w.heap.size;rw [<-f7] at r0 r1 r2 r3 r4 r5 r6 r7 r8 p0 p1 p2⊢;have D:=zh b3;have o:=zh (d6.trans b3);have r0:=fun W h=>r0 W (D.out.trans h)
   have r1:=fun W h=>r1 W (D.out.trans h)
   have r2:=fun W h=>r2 W (D.out.trans h)
   have r3:=fun W h=>r3 W (D.out.trans h)
   have r4:=fun W h=>r4 W (D.out.trans h)
   have r5:=fun W h=>r5 W (D.out.trans h)
   have r6:=fun W h=>r6 W (D.out.trans h)
   have r7:=fun W h=>r7 W (D.out.trans h)
   have r8:=fun W h=>r8 W (D.out.trans h)
   clear f7 d6 b3 e0;have M:za w1 w1:=za.refl w1
   go_wp2_with fail
   refine (O.out w1 o.out).mono ?_;rintro e w2 ⟨rfl,f3⟩;clear M;have M:za w1 w2:=f3;clear f3 O;by_cases E:m.tasks.length<=c
   ·have hd:decide ((m.tasks.length:Int)<=(c:Int))=true:=DU (by omega);have HF:Hid (R=false):=by (show _=_);rw [d4.out];exact holdsT_done (by rw [<-c6.out];exact E)
    rw [hd];clear E hd
    go_wp2_with fail
    go_ret;exact ⟨zi HF.out.symm,o.out.trans M⟩
   ·have hd:decide ((m.tasks.length:Int)<=(c:Int))=false:=DV (by omega)
    have I:Hid (R=if tk≠(c:Int)\/s≠[] then cutB m ch tk s ks.length else AT m ks ch (zu m ch)):=by
     (show _=_)
     rw [d4.out,holdsT_node (by rw [<-c6.out];exact E),c6.out]
    rw [hd];clear E hd d4;go_upto_region 3 with fail;obtain ⟨bq,f6⟩:∃bq:Bool,bq=decide (tk≠(c:Int)\/s≠[]):=⟨_,rfl⟩;have B:=zh f6;clear f6;go_cut [20] (fun v wx=>v=.bool bq/\w2=wx)
    case first=>
     by_cases J:tk=(c:Int)
     ·have hd:(tk != (c:Int))=false:=by rw [J];simp
      have b9:Hid (bq=decide (0<s.length)):=by
       (show _=_)
       rw [B.out,decide_eq_decide];constructor
       ·rintro (h | h)
        ·exact absurd J h
        ·exact List.length_pos_iff.2 h
       ·intro h;exact .inr (List.length_pos_iff.1 h)
      clear J
      go_wp2_with fail
      go_meet;refine ⟨?_,rfl⟩;rw [b9.out]
      all_goals (first | rfl | (congr 1;done) | (congr 1;rw [decide_eq_decide];omega))
     ·have hd:(tk != (c:Int))=true:=by rw [bne_iff_ne];exact J
      have b9:Hid (bq=true):=by (show _=_);rw [B.out];exact DU (.inl J)
      clear J
      go_wp2_with fail
      go_meet;exact ⟨by rw [b9.out],rfl⟩
    case rest=>
     obtain ⟨rfl,rfl⟩:=hcut
     cases bq with
     | true=>
      have HF:Hid (R=cutB m ch tk s ks.length):=by (show _=_);rw [I.out,if_pos (EV B.out.symm)]
      clear B I
      go_wp2_with fail
      refine (Q.out w2 (o.out.trans M)).mono ?_;rintro e w4 ⟨rfl,h7⟩
      go_wp2_with fail
      go_ret;exact ⟨zi HF.out.symm,(o.out.trans M).trans h7⟩
     | false=>
      have HF:Hid (R=AT m ks ch (zu m ch)):=by (show _=_);rw [I.out,if_neg (of_decide_eq_false B.out.symm)]
      clear B I Q
      go_wp2_with fail
      refine (e4.out w2 (o.out.trans M)).mono ?_;rintro e w4 ⟨vl,rfl,d5⟩;have e5:=zh d5.ints;have e1:za w1 w4:=M.trans d5.ext;have c0:Hid (zu m ch=BK m ch):=by (show _=_);unfold zu;rw [if_pos (okC_of HC.out HI.out)]
      have e6:Hid (∀n∈zu m ch,zy m (ch++[n])):=fun n hn=>by
       rw [c0.out] at hn;exact .snoc HI.out hn
      have h9:(zu m ch).length<=400000000000:=by rw [c0.out];exact CE HL.out ch
      obtain ⟨L,hL⟩:=EY (zu m ch);rw [<-hL] at e5 HF e6 h9;obtain ⟨AL,cL,rfl,-,g3⟩:=e5.out;have h4:=zh g3;have f0:=zh e1;clear d5 M hL g3 c0 e4;by_cases b0:L.length=ks.length
      ·have hd:((L.length:Int) != (ks.length:Int))=false:=by rw [b0];simp
       have e7:=zh b0;clear b0;have f1:=zh (za.refl w4)
       go_wp2_with fail
       clear e1;go_loopw [37] (fun i wr=>∃j:Nat,j<=L.length/\i=.int .i64 j/\Hid (R=AT m (ks.drop j) ch (L.drop j))/\Hid (za w4 wr)) (fun i _=>L.length - (intOf i).toNat)
       case atStart=>exact ⟨0,Ef _,rfl,HF.out,f1.out⟩
       case round=>
        obtain ⟨j,hj,rfl,hr,hE⟩:=hrel;obtain ⟨wj,rfl⟩:∃wj:World,wj=wr:=⟨_,rfl⟩;have M:za w1 wj:=f0.out.trans hE.out;by_cases a9:j<L.length
        ·have j1:(j:Int)<(L.length:Int):=by omega
         have kk0:(0:Int)<=(j:Int):=by omega
         have G:j<ks.length:=by rw [<-e7.out];exact a9
         have i4:(j:Int)<(ks.length:Int):=by omega
         obtain ⟨bl,offl,rfl,-,b8⟩:=zE h4.out a9 a9;have i3:wj.cell? ⟨bl,offl+j,none⟩=some (.int .i64 L[j]):=hE.out.cell b8;have c8:Hid (zy m (ch++[L[j]])):=e6.out _ (DS a9);have U:=zh (holdsL_drop (m:=m) (ch:=ch) G a9);obtain ⟨b,off,rfl,h0,h1,h2⟩:=kidsAt g9.out G;have q0:=za.rule (o.out.cell h0);have q1:=za.rule (o.out.cell h1);have q2:=za.rule (o.out.cell h2);have e9:=zh (g6.out j G);have c9:Hid ((ks[j]).Lens/\(ks[j]).size<=N):=⟨g8.out _ (DS G),by have:=h5.out _ (DS G);omega⟩;obtain ⟨n,hn⟩:=EY (L[j]);obtain ⟨kd,f8⟩:=EY (ks[j]);rw [<-hn] at i3 c8 U;rw [<-f8] at U e9 c9;obtain ⟨hb,d8⟩:=EY (AU m kd (ch++[n]));rw [<-d8] at U
         have e8:Hid (∀W,za w1 W->Calls Tryz.prog 134 #[.agg #[.int .i64 m.w,.int .i64 m.h,.int .i64 m.l,.slice Af m.free.length cf,.slice Au m.up.length cu,.slice At m.tasks.length ct,.slice Ac ch.length cc,.slice Ap PL cp,.int .i64 c],.int .i64 n] W fun e w'=>∃a0 a1 a2 a3 a4 a5 a6 a7 a8,e=.returned (.agg #[a0,a1,a2,a3,a4,a5,a6,a7,a8])/\za W w'/\∀W',za w' W'->Calls Tryz.prog 64 #[.agg #[a0,a1,a2,a3,a4,a5,a6,a7,a8],.agg #[cs.getD (j*3) undef,cs.getD (j*3+1) undef,cs.getD (j*3+2) undef]] W' fun e w'=>e=.returned (.bool hb)/\za W' w'):=fun W hW=>by
          refine (b1.out n c8.out W (o.out.trans hW)).mono ?_;rintro e w' ⟨vc',vp',rfl,f2,hS⟩;refine ⟨_,_,_,_,_,_,_,_,_,rfl,f2,fun W' hW'=>?_⟩;rw [d8];exact IH.out _ _ _ _ _ _ _ _ _ _ W' (hS.more hW') c8.out (e9.out.ext (o.out.trans (hW.trans (f2.trans hW')))) c9.out.2 c9.out.1
         have g5:=zh hE.out;have i8:za w1 wj:=M;clear b8 h0 h1 h2 hn f8 d8 M;go_upto_region 11 with fail;go_cut [51] (fun v wx=>v=.bool (!hb)/\za wj wx)
         case first=>
          refine Eh (S:=(fun W=>za w1 W)) zI (i8.drew) fun zH=>?_;have h8:za w1 wj.drew:=zH;have f4:za wj wj.drew:=(za.refl wj).drew;generalize wj.drew=wd at zH h8 f4⊢;refine zg 0 zH ?_;refine zg 1 zH ?_;simp only [zb,DN];refine zg 3 zH ?_;refine zg 4 zH ?_;simp only [zb,DN];refine zg 5 zH ?_;refine zg 6 zH ?_;simp only [zb,DN];refine zg 7 zH ?_;simp only [zb,DN];refine AD 2 fun K hK=>?_;go_simp;go_at_call 134;refine (e8.out _ zH).mono ?_;rintro e w9 ⟨a0,a1,a2,a3,a4,a5,a6,a7,a8,rfl,b2,HK⟩;have g7:=zh HK;clear HK;go_simp;refine EZ hK (zH.trans b2) fun zH=>?_;clear hK K;try simp only [zb,DN]
          refine AD 8 fun K hK=>?_;go_simp;go_at_call 64;refine (g7.out _ (za.refl _)).mono ?_;rintro e w10 ⟨rfl,b5⟩;go_simp;refine EZ hK (zH.trans b5) fun zH=>?_;clear hK K;try simp only [zb,DN]
          refine zg 9 zH ?_;simp only [zb,DN];refine Ev (by kernel_rfl) ?_ _;go_wp2;go_meet;exact ⟨by first | rfl | simp,(f4.trans b2).trans b5⟩
         case rest=>
          obtain ⟨rfl,b2⟩:=hcut;have g4:za w4 wc:=g5.out.trans b2
          cases hb with
          | false=>
           have V:Hid (R=false):=by (show _=_);rw [hr.out,U.out,Bool.false_and]
           go_wp2_with fail
           go_ret;exact ⟨zi V.out.symm,o.out.trans (f0.out.trans g4)⟩
          | true=>
           have i7:Hid (R=AT m (ks.drop (j+1)) ch (L.drop (j+1))):=by (show _=_);rw [hr.out,U.out,Bool.true_and]
           go_wp2_with fail
           go_roundw
           case rel=>exact ⟨j+1,by omega,by go_num,i7,g4⟩
           case measure=>simp [intOf];omega
        ·obtain rfl:j=L.length:=by omega
         have V:Hid (R=true):=by
          (show _=_)
          rw [hr.out,List.drop_length,e7.out,List.drop_length];unfold AT;rfl
         go_wp2_with fail
         go_ret;exact ⟨zi V.out.symm,o.out.trans M⟩
      ·have hd:((L.length:Int) != (ks.length:Int))=true:=by rw [bne_iff_ne];omega
       have V:Hid (R=false):=by (show _=_);rw [HF.out];exact holdsL_len (fun h=>b0 h.symm)
       clear b0
       go_wp2_with fail
       go_ret;exact ⟨zi V.out.symm,o.out.trans e1⟩
end
section
open Go.RowKit
def GivesZ {α:Type} (n:Nat) (P:Program) (g:Nat) (lb:Array Value) (encs:α->Array Value) (G:Nat->α->World->Prop) (N:Nat) (Z:Nat->Prop) (w:World):Prop:=
 ∀(l:Nat) (J:Nat->World->Prop) (Jx:World->Prop) (W:World),za w W->w.heap.size<=l->l<W.heap.size->(∀k A B,J k A->Below W.heap.size A B->J k B)->(∀A B,Jx A->Below W.heap.size A B->Jx B)->
  (∀k x W1,k<N->J k W1->G k x W1->YieldAt Fence.wide (n - 1) P l (encs x) W1 fun e W'=>(e=.returned (.bool true)/\J (k+1) W'/\zp (fun b=>b=l\/Z b) W1 W')\/(e=.returned (.bool false)/\Jx W'/\∀b,W.heap.size<=b->b<W1.heap.size->W'.heap[b]?=W1.heap[b]?))->
  J 0 W->
  CallsIn Fence.wide n P g (#[.func (.yield l) #[] #[]]++lb) W fun e W'=>(∃v,e=.returned v)/\(J N W'\/Jx W')
def postZ (B k:Nat) (I:Nat->World->Prop) (Ix:Code->World->Prop) (Z:Nat->Prop) (W:World):Exit->Act->World->Prop
 | .normal,_,W'=>zp Z W W'/\I (k+1) W'
 | .ret,_,W'=>(∀b,B<=b->b<W.heap.size->W'.heap[b]?=W.heap[b]?)/\Ix .ret W'
 | .exit id,_,W'=>(∀b,B<=b->b<W.heap.size->W'.heap[b]?=W.heap[b]?)/\Ix (.exit id) W'
 | .goto t,_,W'=>(∀b,B<=b->b<W.heap.size->W'.heap[b]?=W.heap[b]?)/\Ix (.goto t) W'
 | .panic _,_,_=>False
 | .outgrown,_,_=>False
theorem wpIn_loopZ {P:Program} {n:Nat} {α:Type} {g:Operand} {ps:Array Tmp} {assign body:Code} {Q:Exit->Act->World->Prop} {a:Act}
  {gf:Nat} {lb:Array Value} (hg:a.eval g=.func (.func gf) #[] lb) (eg:∀args w,(callFunc gf args).run P w=.ok (.enter gf args) w)
  {encs:α->Array Value} {G:Nat->α->World->Prop} {N:Nat} {w0:World} {Z:Nat->Prop} (hZ:∀b,Z b->b<w.heap.size) (c0:GivesZ (n - 1) P gf lb encs G N Z w0) (b7:za w0 w) (d5:∀x,(encs x).size=ps.size)
  (I:Nat->World->Prop) (Ix:Code->World->Prop) (hI:∀k A B,I k A->Below w.heap.size A B->I k B) (hIx:∀c A B,Ix c A->Below w.heap.size A B->Ix c B)
  (Ax:Nat->α->Act->World->Prop) (c6:∀k x a A l,Ax k x a A->w.heap.size<l->l<A.heap.size->(∃r,A.heap[l]?=some (.loop r))->∀o,Ax k x a (A.putObj l o)) (h0:I 0 w)
  (a6:∀(l k:Nat) (x:α) (W:World) (K:Act->World->Prop),k<N->I k W->G k x W->w.heap.size<W.heap.size->(∀a' W',za W W'->Ax k x a' W'->K a' W')->
   assign.wpIn (Fence.wide.inRound l) (n - 1 - 1) P (Exit.then K (fun _ _ _=>False)) { tmps:=(ps.zip (encs x)).foldl (fun t (p,v)=>t.setIfInBounds p v) a.tmps,defers:=[] } W)
  (b2:∀(l k:Nat) (x:α) (a':Act) (W:World),k<N->I k W->Ax k x a' W->w.heap.size<W.heap.size->(∃r,W.heap[w.heap.size+1]?=some (.loop r))->body.wpIn (Fence.wide.inRound l) (n - 1 - 1) P (postZ w.heap.size k I Ix Z W) a' W)
  (b3:∀(D:Nat) (W:World),w.heap.size<=D->I N W->W.heap[D]?=some (.deferred (some []))->Q .normal { a with defers:={ target:=.collected D,args:=#[] } :: a.defers } W)
  (b5:∀(D:Nat) (c:Code) (W:World),w.heap.size<=D->Ix c W->W.heap[D]?=some (.deferred (some []))->c.wpIn Fence.wide n P Q { a with defers:={ target:=.collected D,args:=#[] } :: a.defers } W):
  (Code.rangeFunc g ps assign body).wpIn Fence.wide n P Q a w:=by
 refine wpIn_rangeFunc ?_;intro fn hfn;obtain ⟨rec,J⟩:∃rec:LoopState->Option Code->Loop,rec=fun st pe=>{ state:=st,pending:=pe,fn,tmps:=a.tmps,params:=ps,assign,body,defers:=w.heap.size }:=⟨_,rfl⟩
 obtain ⟨W1,a5⟩:∃W1,(w.alloc (.deferred (some []))).alloc (.loop (rec .ready none))=W1:=⟨_,rfl⟩;have e2:W1.heap.size=w.heap.size+2:=by rw [<-a5];simp
 have c8:W1.heap[w.heap.size+1]?=some (.loop (rec .ready none)):=by
  rw [<-a5];have:=World.alloc_heap_new (w.alloc (.deferred (some []))) (.loop (rec .ready none))
  rwa [World.size_alloc] at this
 have c7:W1.heap[w.heap.size]?=some (.deferred (some [])):=by
  rw [<-a5];exact (Ej _ _ _ (by simp)).trans (World.alloc_heap_new w _)
 have b6:za w W1:=by rw [<-a5];exact ((za.refl w).alloc _).alloc _
 refine ⟨w.heap.size+1,[{ target:=.collected w.heap.size,args:=#[] }],W1,{ target:=.fn (.func gf) lb,args:=#[.func (.yield (w.heap.size+1)) #[] #[]] },W1,gf,
  #[.func (.yield (w.heap.size+1)) #[] #[]]++lb,W1,?_,?_,fun _ _=>trivial,?_,fun h=>absurd h (by simp [Fence.wide]),?_⟩
 ·rw [<-a5,J];exact run_enterLoop_outer _ _ _ _ _
 ·simp only [resolve,hg];simp [go_sem]
 ·simp [invoke,go_sem,eg]
 ·refine (c0 (w.heap.size+1)
   (fun k W=>I k W/\W.heap[w.heap.size+1]?=some (.loop (rec .ready none))/\W.heap[w.heap.size]?=some (.deferred (some []))/\w.heap.size+1<W.heap.size)
   (fun W=>∃c,Ix c W/\W.heap[w.heap.size+1]?=some (.loop (rec .done (some c)))/\W.heap[w.heap.size]?=some (.deferred (some [])))
   W1 (b7.trans b6) (by have:=b7.size;omega) (by omega) ?_ ?_ ?_ ⟨hI _ _ _ h0 b6,c8,c7,by omega⟩).mono ?_
  ·rintro k A B ⟨h1,h2,h3,h4⟩ U;exact ⟨hI _ _ _ h1 (U.mono (by omega)),(U.block _ (by omega)).trans h2,(U.block _ (by omega)).trans h3,Et h4 U.size⟩
  ·rintro A B ⟨c,h1,h2,h3⟩ U;exact ⟨c,hIx _ _ _ h1 (U.mono (by omega)),(U.block _ (by omega)).trans h2,(U.block _ (by omega)).trans h3⟩
  ·-- one round
   rintro k x W b9 ⟨hi,hl,hD,O⟩ d4;have hy:=run_yield (P:=P) (args:=encs x) hl (by rw [J];exact d5 x);rw [J] at hy;refine ⟨fn,_,assign,body,hy,roundIn_of_wpIn hfn (a6 _ k x W _ b9 hi d4 (Nat.lt_trans (Nat.lt_succ_self _) O) (fun a' Wa a1 c9=>?_))⟩;have hl:=(a1.block _ O).trans hl;have hD:=(a1.block _ (by omega)).trans hD;have hi:=hI _ _ _ hi (a1.mono (by omega));have d7:=O;have O:w.heap.size+1<Wa.heap.size:=Et O a1.size;refine ⟨_,run_beginRound hl (by rw [J]),?_⟩;have a4:(Wa.putObj (w.heap.size+1) (.loop { rec .ready none with state:=.busy })).heap[w.heap.size+1]?=some (.loop { rec .ready none with state:=.busy }):=World.putObj_heap_same O;have a8:(Wa.putObj (w.heap.size+1) (.loop { rec .ready none with state:=.busy })).heap[w.heap.size]?=some (.deferred (some [])):=(World.putObj_heap_other (by omega)).trans hD;have V:w.heap.size+1<(Wa.putObj (w.heap.size+1) (.loop { rec .ready none with state:=.busy })).heap.size:=(EM.1 a4).1;have b4:Wa.grownBy (Wa.putObj (w.heap.size+1) (.loop { rec .ready none with state:=.busy })) (some (w.heap.size+1)):=grownBy_putObj' _ _ _;refine wpIn_mono (b2 _ k x a' _ b9 (hI _ _ _ hi (AV _ (by omega) O)) (c6 _ _ _ _ _ c9 (by omega) O ⟨_,hl⟩ _) (Nat.lt_trans (Nat.lt_succ_self _) V) ⟨_,a4⟩) ?_;generalize Wa.putObj (w.heap.size+1) (.loop { rec .ready none with state:=.busy })=W2 at*
   have fin:∀(jump:Option Code) (W3:World),W3.heap[w.heap.size+1]?=some (.loop { rec .ready none with state:=.busy })->
     (Instr.endRound (w.heap.size+1) jump).run P W3=.ok (.bool jump.isNone) (W3.putObj (w.heap.size+1) (.loop (rec (if jump.isNone then .ready else .done) jump))):=fun jump W3 M=>by
    have:=run_endRound (P:=P) jump M;rw [J] at this⊢;exact this
   have keep:∀W3:World,(∀b,w.heap.size<=b->b<W2.heap.size->W3.heap[b]?=W2.heap[b]?)->∀(o:Obj) (b:Nat),W1.heap.size<=b->b<W.heap.size->(W3.putObj (w.heap.size+1) o).heap[b]?=W.heap[b]?:=fun W3 L o b e0 b8=>by
    have h1:b<Wa.heap.size:=Et b8 a1.size;have h2:=b4.size;exact (World.putObj_heap_other (by omega)).trans ((L b (by omega) (by omega)).trans ((b4.block b h1 (fun e=>by injection e;omega)).trans (a1.block b b8)))
   rintro e a3 W3 hp
   cases e with
   | normal=>
    obtain ⟨b1,a2⟩:=hp;have M:=(b1.block _ V (fun h=>by have:=hZ _ h;omega)).trans a4;have E:=(EM.1 M).1;have a0:=(b1.block _ (by omega) (fun h=>by have:=hZ _ h;omega)).trans a8;refine ⟨_,_,fin none W3 M,.inl ⟨rfl,⟨hI _ _ _ a2 (AV _ (by omega) E),World.putObj_heap_same E,(World.putObj_heap_other (by omega)).trans a0,?_⟩,?_⟩⟩
    ·exact (EM.1 (World.putObj_heap_same E)).1
    ·exact (((zp.of_ext (X:=fun b=>b=w.heap.size+1\/Z b) a1).grown b4 (fun k e _=>by injection e with e;exact .inl e.symm)).trans b1 (fun k _ h=>.inr h)).grown (grownBy_putObj' _ _ _) (fun k e _=>by injection e with e;exact .inl e.symm)
   | ret=>
    obtain ⟨L,a2⟩:=hp;have M:=(L _ (by omega) V).trans a4;have E:=(EM.1 M).1;have a0:=(L _ (DR _) (by omega)).trans a8;exact ⟨_,_,fin (some .ret) W3 M,.inr ⟨rfl,⟨.ret,hIx _ _ _ a2 (AV _ (by omega) E),World.putObj_heap_same E,(World.putObj_heap_other (by omega)).trans a0⟩,keep W3 L _⟩⟩
   | exit id=>
    obtain ⟨L,a2⟩:=hp;have M:=(L _ (by omega) V).trans a4;have E:=(EM.1 M).1;have a0:=(L _ (DR _) (by omega)).trans a8;exact ⟨_,_,fin (some (.exit id)) W3 M,.inr ⟨rfl,⟨.exit id,hIx _ _ _ a2 (AV _ (by omega) E),World.putObj_heap_same E,(World.putObj_heap_other (by omega)).trans a0⟩,keep W3 L _⟩⟩
   | goto t=>
    obtain ⟨L,a2⟩:=hp;have M:=(L _ (by omega) V).trans a4;have E:=(EM.1 M).1;have a0:=(L _ (DR _) (by omega)).trans a8;exact ⟨_,_,fin (some (.goto t)) W3 M,.inr ⟨rfl,⟨.goto t,hIx _ _ _ a2 (AV _ (by omega) E),World.putObj_heap_same E,(World.putObj_heap_other (by omega)).trans a0⟩,keep W3 L _⟩⟩
   | panic ch=>exact hp.elim
   | outgrown=>exact hp.elim
  ·-- behind the iterator
   rintro e W2 ⟨⟨v,rfl⟩,(⟨hi,hl,hD,O⟩ | ⟨c,hi,hl,hD⟩)⟩
   ·exact ⟨none,_,by have:=run_endLoop (P:=P) hl (by rw [J];simp);rw [J] at this;exact this,b3 _ _ (DR _) (hI _ _ _ hi (AV _ (by omega) O)) ((World.putObj_heap_other (by omega)).trans hD)⟩
   ·have O:=(EM.1 hl).1;exact ⟨some c,_,by have:=run_endLoop (P:=P) hl (by rw [J];simp);rw [J] at this;exact this,b5 _ c _ (DR _) (hIx _ _ _ hi (AV _ (by omega) O)) ((World.putObj_heap_other (by omega)).trans hD)⟩
end
end Go.Proofs.YtjomnbdjajjgfaaGreatDoor
