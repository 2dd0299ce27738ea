import Derived.Test.YtcnaogdgjkpkmaaGreatDoorWCi
import Derived.Deep.RegionHeld
import Derived.Test.YtcnaogdgjkpkmaaGreatDoorRows
set_option linter.unusedVariables false
set_option linter.unusedSimpArgs false
set_option maxRecDepth 100000
set_option maxHeartbeats 16000000
namespace Go.Proofs.YtcnaogdgjkpkmaaGreatDoor
variable {l:Array Bool} {R:Ending->World->Prop} {g gp i k n:Nat} {oi:Oper} {s:Rd} {x y z:Value} {w:World}
section
open Go.RowKit
theorem zV.bound {w:World} {ok:Nat->Prop} {v:Value} {p:PT} (h:zV w ok v p):zV w (fun b=>ok b/\b<w.heap.size) v p:=by
 induction h with
 | mk h1 h2 _ ih=>exact .mk h1.bound (h2.bound (by decide)) ih
theorem own_chg {W W':World} {X:Nat->Prop} {B sz:Nat} {e:TypeId} {v:Value} {xs:List Value} (h:W.ownsRow B e sz v n xs) (r:zd X W W') (D:∀b,B<=b->¬ X b):W'.ownsRow B e sz v n xs:=by
 refine ⟨h.1,?_⟩;rcases h.2 with h | ⟨g,cap,cur,h1,h2,d,o⟩
 ·exact .inl h
 ·exact .inr ⟨g,cap,cur,h1,h2,(r.block g (zb d) (D g h2)).trans d,o⟩
structure zO (W:World) (B:Nat) (v:Value) (acc:List PT) (cs:List Value):Prop where
 own:W.ownsRow B 27 3 v acc.length cs
 each:∀(i:Nat) (hi:i<acc.length),zV W (fun b=>B<=b/\v.ownBlock≠some b) (.agg #[cs.getD (i*3) undef,cs.getD (i*3+1) undef,cs.getD (i*3+2) undef]) acc[i]
section
variable {W W':World} {B lo:Nat} {v v':Value} {acc:List PT} {cs:List Value} {p:PT} {a b c:Value} {X:Nat->Prop}
theorem zO.nil (W:World) (B:Nat):zO W B (.slice none 0 0) [] []:=⟨World.ownsRow_nil _ _ _ _,fun i d=>absurd d (by simp)⟩
theorem zO.chg (h:zO W B v acc cs) (o:zd X W W') (r:∀b,B<=b->¬ X b):zO W' B v acc cs:=
 ⟨own_chg h.own o r,fun i E=>(h.each i E).keepW (fun b D d=>o.block b d (r b D.1)) (fun _ h=>h)⟩
theorem zO.lt (h:zO W B v acc cs) (d:v.ownBlock=some k):B<=k/\k<W.heap.size:=by
 rcases h.own.2 with ⟨rfl,-⟩ | ⟨g,cap,cur,rfl,h1,h2,-⟩
 ·cases d
 ·have:g=k:=by simpa [Value.ownBlock] using d
  subst this;exact ⟨h1,zb h2⟩
theorem BK {l l2:List Value} (h:i<l.length):(l++l2).getD i undef=l.getD i undef:=by
 rw [CX,CX,Dd h]
theorem zO.app (h:zO W B v acc cs) (hp:zV W (fun b=>lo<=b) (.agg #[a,b,c]) p) (D:∀k,v.ownBlock=some k->k<lo) (O:B<=lo) (L:W'.ownsRow B 27 3 v' (acc.length+1) (cs++[a,b,c])) (I:W.grownBy W' v.ownBlock)
  (M:v'.ownBlock=v.ownBlock\/v'.ownBlock=some W.heap.size):zO W' B v' (acc++[p]) (cs++[a,b,c]):=by
 have o:cs.length=acc.length*3:=h.own.1
 have E:∀k,k<W.heap.size->v.ownBlock≠some k->v'.ownBlock≠some k:=fun k d h1=>by
  rcases M with h2 | h2
  ·rw [h2];exact h1
  ·rw [h2];intro e;injection e with e;omega
 refine ⟨by rw [Dh];exact L,fun i J=>?_⟩;by_cases K:i<acc.length
 ·rw [BK (by omega),BK (by omega),BK (by omega),List.getElem_append_left K];exact (h.each i K).bound.keepW (fun k d r=>I.block k r (fun e=>d.1.2 e.symm)) (fun k d=>⟨d.1.1,E k d.2 d.1.2⟩)
 ·have G:i=acc.length:=by rw [Dh,Dx] at J;omega
  subst G;have e0:(cs++[a,b,c]).getD (acc.length*3) undef=a:=by rw [CX,De (by omega),o,Nat.sub_self];rfl
  have e1:(cs++[a,b,c]).getD (acc.length*3+1) undef=b:=by rw [CX,De (by omega),o,Nat.add_sub_cancel_left];rfl
  have e2:(cs++[a,b,c]).getD (acc.length*3+2) undef=c:=by rw [CX,De (by omega),o,Nat.add_sub_cancel_left];rfl
  rw [e0,e1,e2];have:(acc++[p])[acc.length]'J=p:=by simp
  rw [this];exact hp.bound.keepW (fun k d r=>I.block k r (fun e=>by have:=D k e.symm;omega)) (fun k d=>⟨by omega,E k d.2 (fun e=>by have:=D k e;omega)⟩)
theorem zO.kids (h:zO W B v acc cs) (t:Int):zV W (fun b=>B<=b) (.agg #[.int .i64 t,.slice none 0 0,v]) (.node t [] acc):=
 .mk (cs:=cs) (zk.nil _ _) (Ay.of_own h.own) (fun i d=>(h.each i d).keepW (fun _ _ _=>rfl) (fun _ h=>h.1))
end
theorem zd.wide {X X':Nat->Prop} {a b:World} (h:zd X a b) (d:∀k,X k->X' k):zd X' a b:=⟨h.os,h.tape,h.output,h.size,fun b o r=>h.block b o fun e=>r (d b e)⟩
theorem zd.set {X:Nat->Prop} {a b:World} (h:zd X a b) (g k:Nat) (v:Value) (o:X g):zd X a (b.setCell ⟨g,k,none⟩ v):=
 ⟨h.os,h.tape,h.output,by simpa using h.size,fun i r d=>(Di b ⟨g,k,none⟩ v i (fun e=>d (by rw [e];exact o))).trans (h.block i r d)⟩
theorem zd.grown {X:Nat->Prop} {a b c:World} {r:Option Nat} (h:zd X a b) (d:b.grownBy c r) (E:∀k,r=some k->k<a.heap.size->X k):zd X a c:=
 ⟨d.os.trans h.os,d.tape.trans h.tape,d.output.trans h.output,Da h.size d.size,fun i o D=>(d.block i (Dz o h.size) (fun e=>D (E i e.symm o))).trans (h.block i o D)⟩
theorem zd.blk {X:Nat->Prop} {a b:World} {t:TypeId} {cs:Array Value} (h:zd X a b) (d:ze a g t cs) (o:¬ X g):ze b g t cs:=(h.block g (zb d) o).trans d
theorem zd.cellk {X:Nat->Prop} {a b:World} {p:Addr} {v:Value} (h:zd X a b) (d:a.cell? p=some v) (o:¬ X p.block):b.cell? p=some v:=(Ci (h.block _ (zA d) o)).trans d
theorem za.cellB {W:World} {t:TypeId} {cs:Array Value} (d:za w W) (h:ze w g t cs):ze W g t cs:=h.ext d
theorem prove_err {F:Int->Nat->Int×PT×Nat} {n:Int} {l L:List Int} {k0:Nat} {acc:List PT} (h:(F n k).1≠0) (d:zF F L k0 []=zF F (n :: l) k acc) {a:Int×PT×Nat} {b:PT×Nat}:(if (zF F L k0 []).1=0 then a else ((zF F L k0 []).1,b)).1=(F n k).1:=by
 rw [d,kidsR_stop h,if_neg h]
theorem AH {W:World} {a b c:Value} (d:ze W g 27 #[a,b,c]):Ay W (fun _=>True) 3 (.slice (some ⟨g,0,none⟩) 1 1) 1 [a,b,c]:=
 ⟨_,1,rfl,CY _,by simp,fun _=>⟨g,0,rfl,trivial,fun j u o=>by rw [Nat.zero_add];exact d.cell (by simpa using o)⟩⟩
end
section
open Go.RowKit Go.Shelf
attribute [local go_sem ↓] Go.wp_at_zero Go.wp_at_succ
def zJ (g:Rd->PT×Rd):Nat->Rd->List PT->List PT×Rd
 | 0,s,ks=>(ks,s)
 | n+1,s,ks=>if s.2=true then (ks,s) else zJ g n (g s).2 (ks++[(g s).1])
def CE:Nat->Rd->PT×Rd
 | 0,_=>(.zero,([],true))
 | f+1,s=>(.node (zw s).1 (zy (zw s).2).1 (zJ (CE f) (zw (zy (zw s).2).2).1.toNat (zw (zy (zw s).2).2).2 []).1,(zJ (CE f) (zw (zy (zw s).2).2).1.toNat (zw (zy (zw s).2).2).2 []).2)
theorem elsF_len:∀(f:Nat) (s:Rd) (l:List Int),(zZ f s l).2.1.length<=s.1.length
 | 0,s,l=>CY _
 | f+1,s,l=>by
  unfold zZ
  split
  ·exact CY _
  ·exact Da (elsF_len f _ _) (AW s).1
theorem intsF_len (s:Rd):(zy s).2.1.length<=s.1.length:=by
 unfold zy
 split
 ·simp
 ·have h:=elsF_len s.1.tail.length (s.1.tail,false) [];unfold intsE
  split
  ·simp
  ·simp only [List.length_tail] at h⊢;omega
def lv (s:Rd):Nat:=if s.2=true then 0 else s.1.length+1
theorem BV (h:s.2=false):lv s=s.1.length+1:=by unfold lv;rw [h];rfl
theorem kidsF_lv {g:Rd->PT×Rd} (d:∀s,s.2=false->lv (g s).2<=lv s):∀(n:Nat) (s:Rd) (ks:List PT),lv (zJ g n s ks).2<=lv s
 | 0,s,ks=>CY _
 | n+1,s,ks=>by
  unfold zJ
  split
  ·exact CY _
  ·rename_i h
   exact Da (kidsF_lv d n _ _) (d s (by simpa using h))
theorem lv_dec {t:Rd} (h:t.2=false->t.1.length<s.1.length) (o:s.2=false):lv t<lv s:=by
 rw [BV o];unfold lv
 split
 ·omega
 ·rename_i d
  have:=h (by simpa using d);omega
theorem three_len (s:Rd):(zw (zy (zw s).2).2).2.1.length<=s.1.length/\((zw (zy (zw s).2).2).2.2=false->(zw (zy (zw s).2).2).2.1.length<s.1.length):=by
 have h1:=AW s;have h2:=intsF_len (zw s).2;have d:=AW (zy (zw s).2).2;exact ⟨by omega,fun h=>by have:=d.2 h;omega⟩
theorem rdF_lv:∀(f:Nat) (s:Rd),s.2=false->lv (CE f s).2<lv s
 | 0,s,d=>by rw [BV d];exact Nat.zero_lt_succ _
 | f+1,s,d=>by
  show lv (zJ (CE f) _ _ []).2<_;exact Nat.lt_of_le_of_lt (kidsF_lv (fun s h=>Nat.le_of_lt (rdF_lv f s h)) _ _ _) (lv_dec (three_len s).2 d)
theorem kidsF_stop {g:Rd->PT×Rd} {ks:List PT} (h:n=0\/s.2=true):zJ g n s ks=(ks,s):=by
 cases n with
 | zero=>rfl
 | succ n=>
  unfold zJ;rcases h with h | h
  ·cases h
  ·rw [if_pos h]
theorem kidsF_step {g:Rd->PT×Rd} {j:Nat} {ks:List PT} (h:s.2=false) (o:j<n):zJ g (n - j) s ks=zJ g (n - (j+1)) (g s).2 (ks++[(g s).1]):=by
 obtain ⟨k,d⟩:∃k,n - j=k+1:=⟨n - j - 1,by omega⟩;rw [d,show n - (j+1)=k by omega];show (if s.2=true then _ else _)=_;rw [if_neg (by rw [h];simp)]
theorem var_new (h:z9 w) {b:Nat} (d:w.heap.size<=b):¬ isVar b:=by
 rintro ⟨n,r,o⟩
 have f:∀cs,w.var? Tryz.prog n=some cs->False:=fun cs h=>by
  unfold World.var? at h;rw [o,Option.bind_some,Array.getElem?_eq_none d] at h;cases h
 rcases r with rfl | rfl | rfl
 ·exact f _ h.tab
 ·obtain ⟨tp,p,h⟩:=h.syn;exact f _ h
 ·obtain ⟨tp,p,h⟩:=h.rng;exact f _ h
theorem read_end {a:Act} {W:World} (o:a.tmps[2]?=some (.pointer (some ⟨gp,0,none⟩))) (r:a.defers=[]) (d:ze W gp 27 #[x,y,z]) (h:R (.returned (.agg #[x,y,z])) W):bodyPost Tryz.prog Tryz.f41 R Exit.ret a W:=by
 have c0:=d.cell (k:=0) rfl;have c1:=d.cell (k:=1) rfl;have c2:=d.cell (k:=2) rfl;have e:a.tmps.getD 2 undef=.pointer (some ⟨gp,0,none⟩):=by rw [Array.getD_eq_getD_getElem?,o];rfl
 exact DM (v:=.agg #[x,y,z]) (by simp [results,Tryz.results41,go_sem,o,e,c0,c1,c2]) r h
theorem read_calls:∀(f:Nat) {r:Nat} {s:Rd} (w:World),z9 w->Ai w r s->s.1.length<f->f<=1000000000->
  Calls Tryz.prog 41 #[.pointer (some ⟨r,0,none⟩)] w fun e w'=>∃v,e=.returned v/\zd (·=r) w w'/\Ai w' r (CE f s).2/\zV w' (fun b=>w.heap.size<=b) v (CE f s).1
 | 0,r,s,w,_,_,h,_=>by omega
 | f+1,r,s,w,hv,hr,hf,n9=>by
  have IH:Hid (∀(r:Nat) (s:Rd) (w:World),z9 w->Ai w r s->s.1.length<f->Calls Tryz.prog 41 #[.pointer (some ⟨r,0,none⟩)] w fun e w'=>∃v,e=.returned v/\zd (·=r) w w'/\Ai w' r (CE f s).2/\zV w' (fun b=>w.heap.size<=b) v (CE f s).1):=fun r s w a b c=>read_calls f w a b c (by omega)
  have HV:=zh hv;have HR:=zh hr;have o2:=zb hr;obtain ⟨t,ht⟩:=DX (zw s);obtain ⟨u,hu⟩:=DX (zy t.2);obtain ⟨n,hn⟩:=DX (zw u.2);obtain ⟨G,hG⟩:=DX (CE f);obtain ⟨N,hN⟩:=DX n.1.toNat;have HF:Hid (CE (f+1) s=(.node t.1 u.1 (zJ G N n.2 []).1,(zJ G N n.2 []).2)):=by (show _=_);rw [hN,hn,hu,ht,hG];rfl
  have e9:=AW s;have l8:=intsF_len t.2;have i4:=AW u.2;rw [<-ht] at e9;rw [<-hu] at l8;rw [<-hn] at i4;have HT:Hid (∀w,z9 w->Ai w r s->Calls Tryz.prog 83 #[.pointer (some ⟨r,0,none⟩)] w fun e w'=>e=.returned (.int .i64 t.1)/\zd (·=r) w w'/\Ai w' r t.2):=fun w a b=>by rw [ht];exact rInt_calls w a b (by omega)
  have HU:Hid (∀w,z9 w->Ai w r t.2->Calls Tryz.prog 84 #[.pointer (some ⟨r,0,none⟩)] w fun e w'=>∃v,e=.returned v/\zd (·=r) w w'/\Ai w' r u.2/\zT w' w.heap.size v u.1):=fun w a b=>by rw [hu];exact rInts_calls w a b (by omega)
  have j8:Hid (∀w,z9 w->Ai w r u.2->Calls Tryz.prog 83 #[.pointer (some ⟨r,0,none⟩)] w fun e w'=>e=.returned (.int .i64 n.1)/\zd (·=r) w w'/\Ai w' r n.2):=fun w a b=>by rw [hn];exact rInt_calls w a b (by omega)
  have m9:Hid (Cp n.1):=by (show Cp n.1);rw [hn];exact Cv _
  have j7:Hid (n.2.1.length<=1000000000/\(n.2.2=false->n.2.1.length<f)):=⟨by omega,fun h=>by have:=i4.2 h;omega⟩;have m6:Hid (∀(s:Rd),s.2=false->lv (G s).2<lv s):=by (show ∀s,_);rw [hG];exact rdF_lv f
  rw [<-hG] at IH;have g5:=zh hN;rw [HF.out];clear hv hr hf n9 ht hu hn hG e9 l8 i4 hN HF
  go_enter Tryz.func41,Tryz.ntmps41
  go_upto_region 1 with fail;have c6:Hid (ze (w.alloc (.cells #[.int .i64 0,.slice none 0 0,.slice none 0 0] 27)) w.heap.size 27 #[.int .i64 0,.slice none 0 0,.slice none 0 0]):=ze.new _ _ _ rfl;have c8:Hid (za w (w.alloc (.cells #[.int .i64 0,.slice none 0 0,.slice none 0 0] 27))):=(za.refl w).alloc _;generalize w.alloc _=w1 at c6 c8⊢;obtain ⟨gp,i3⟩:∃g,g=w.heap.size:=⟨_,rfl⟩;rw [<-i3] at c6⊢;have a8:=zh i3;have D:Hid (r<gp):=by (show r<gp);omega
  clear i3 o2
  go_wp2_with fail
  refine (HT.out w1 (HV.out.ext c8.out) (HR.out.ext c8.out)).mono ?_;rintro e w2 ⟨rfl,c9,e7⟩;have a2:=zh c9;have n3:=zh e7;have k6:Hid (z9 w2):=Bb (HV.out.ext c8.out) c9 (var_ne HV.out HR.out);clear c9 e7
  go_wp2_with fail
  refine (HU.out w2 k6.out n3.out).mono ?_;rintro e w3 ⟨vs,rfl,f6,l4,h9⟩;obtain ⟨As,cs,rfl,-⟩:=Az h9;have d8:Hid (ze w3 gp 27 #[.int .i64 0,.slice none 0 0,.slice none 0 0]):=(a2.out.tr f6).blk c6.out (by have:=D.out;omega);obtain ⟨ws,f7⟩:∃W,W=(w3.setCell ⟨gp,0,none⟩ (.int .i64 t.1)).setCell ⟨gp,1,none⟩ (.slice As u.1.length cs):=⟨_,rfl⟩;have e0:Hid (zd (·=gp) w3 ws):=by (show zd _ _ _);rw [f7];exact ((zd.refl (fun b=>b=gp) _).set gp 0 _ rfl).set gp 1 _ rfl
  have j0:Hid (ze ws gp 27 #[.int .i64 t.1,.slice As u.1.length cs,.slice none 0 0]):=by (show ze _ _ _ _);rw [f7];exact (d8.out.set (k:=0) _).set (k:=1) _
  have k5:Hid (Ai ws r u.2):=e0.out.blk l4 (by have:=D.out;omega);have j2:Hid (zk ws (fun b=>gp<b) (.slice As u.1.length cs) u.1):=((Ay.of_own h9).keep (e0.out.same (fun b hb e=>by have h1:=a2.out.size;have h2:=c8.out.size;have h3:=a8.out;have h4:=zb c6.out;omega))).weaken (fun b hb=>by have h1:=a2.out.size;have h4:=zb c6.out;omega);have h8:Hid (z9 ws):=Bb (Bb k6.out f6 (by rintro g rfl;exact var_ne HV.out HR.out g rfl)) e0.out (by rintro g rfl;exact var_new HV.out (by have:=a8.out;omega));have a0:Hid (zd (fun b=>b=r\/b=gp) w1 ws):=((a2.out.tr f6).wide (fun _ h=>.inl h)).tr (e0.out.wide (fun _ h=>.inr h));have b0:=d8.out.cell (k:=0) rfl;have b1:=d8.out.cell (k:=1) rfl;have fz:∀k,w3.frozen? ⟨gp,k,none⟩=false:=fun k=>d8.out.frozen k
  clear f6 l4 h9 a2 e0
  go_wp2_with fail
  rw [<-f7];clear f7 b0 b1 fz d8;refine (j8.out ws h8.out k5.out).mono ?_;rintro e w6 ⟨rfl,e6,l5⟩;have m5:Hid (zd (fun b=>b=r\/b=gp) w1 w6):=a0.out.tr (e6.wide (fun _ h=>.inl h));have i9:Hid (ze w6 gp 27 #[.int .i64 t.1,.slice As u.1.length cs,.slice none 0 0]):=e6.blk j0.out (by have:=D.out;omega);have m7:Hid (zk w6 (fun b=>gp<b) (.slice As u.1.length cs) u.1):=j2.out.keep (e6.same (fun b hb e=>by have:=D.out;omega));have n5:Hid (z9 w6):=Bb h8.out e6 (by rintro g rfl;exact var_ne HV.out HR.out g rfl);have n4:=zh l5;have I:Hid (gp<w6.heap.size):=zb i9.out;clear e6 l5 j0 j2 h8 k5 HT HU j8 a0 c6
  go_wp2_with fail
  go_loopw [4] (fun v wr=>∃(j:Nat) (acc:List PT) (vk:Value) (cs':List Value) (s':Rd),v=.int .i64 j/\j<=N/\Hid (zJ G N n.2 []=zJ G (N - j) s' acc)/\Hid (zd (fun b=>b=r\/b=gp) w6 wr)/\Hid (Ai wr r s')/\Hid (ze wr gp 27 #[.int .i64 t.1,.slice As u.1.length cs,vk])/\Hid (zO wr w6.heap.size vk acc cs')/\Hid (acc.length+lv s'<=n.2.1.length+1)/\Hid (s'.2=false->n.2.2=false/\lv s'<=lv n.2)) (fun v _=>N - (intOf v).toNat)
  case atStart=>exact ⟨0,[],_,[],n.2,rfl,Do _,rfl,zd.refl _ _,n4.out,i9.out,zO.nil _ _,by (show _<=_);unfold lv;split <;> simp,fun h=>⟨h,CY _⟩⟩
  case round=>
   obtain ⟨j,acc,vk,cs',s',rfl,hj,h7,d,e5,O,E,h6,j4⟩:=hrel;obtain ⟨wq,rfl⟩:∃W:World,W=wr:=⟨_,rfl⟩;by_cases a1:N - j=0\/s'.2=true
   ·have f8:Hid (zJ G N n.2 []=(acc,s')):=h7.out.trans (kidsF_stop a1);have j1:Hid (zk wq (fun b=>gp<b/\b<w6.heap.size) (.slice As u.1.length cs) u.1):=m7.out.bound.keep (d.out.same (fun b hb e=>by have:=D.out;omega));obtain ⟨Ak,ck,o3,-,-⟩:=Ay.of_own E.out.own;subst o3;clear h7;have b0:=O.out.cell (k:=0) rfl;have b1:=O.out.cell (k:=1) rfl;have b2:=O.out.cell (k:=2) rfl;have fz:∀k,wq.frozen? ⟨gp,k,none⟩=false:=fun k=>O.out.frozen k
    have J:=Ca wq e5.out
    have V:Hid (ze (((wq.setCell ⟨gp,0,none⟩ (.int .i64 t.1)).setCell ⟨gp,1,none⟩ (.slice As u.1.length cs)).setCell ⟨gp,2,none⟩ (.slice Ak acc.length ck)) gp 27 #[.int .i64 t.1,.slice As u.1.length cs,.slice Ak acc.length ck]/\zd (·=r) w (((wq.setCell ⟨gp,0,none⟩ (.int .i64 t.1)).setCell ⟨gp,1,none⟩ (.slice As u.1.length cs)).setCell ⟨gp,2,none⟩ (.slice Ak acc.length ck))/\Ai (((wq.setCell ⟨gp,0,none⟩ (.int .i64 t.1)).setCell ⟨gp,1,none⟩ (.slice As u.1.length cs)).setCell ⟨gp,2,none⟩ (.slice Ak acc.length ck)) r (zJ G N n.2 []).2/\zV (((wq.setCell ⟨gp,0,none⟩ (.int .i64 t.1)).setCell ⟨gp,1,none⟩ (.slice As u.1.length cs)).setCell ⟨gp,2,none⟩ (.slice Ak acc.length ck)) (fun b=>w.heap.size<=b) (.agg #[.int .i64 t.1,.slice As u.1.length cs,.slice Ak acc.length ck]) (.node t.1 u.1 (zJ G N n.2 []).1)):=by
     (show _/\_/\_/\_)
     rw [f8.out];have hS:zd (fun b=>b=gp) wq (((wq.setCell ⟨gp,0,none⟩ (.int .i64 t.1)).setCell ⟨gp,1,none⟩ (.slice As u.1.length cs)).setCell ⟨gp,2,none⟩ (.slice Ak acc.length ck)):=(((zd.refl (fun b=>b=gp) _).set gp 0 _ rfl).set gp 1 _ rfl).set gp 2 _ rfl;have hW:zd (fun b=>b=r\/b=gp) w (((wq.setCell ⟨gp,0,none⟩ (.int .i64 t.1)).setCell ⟨gp,1,none⟩ (.slice As u.1.length cs)).setCell ⟨gp,2,none⟩ (.slice Ak acc.length ck)):=((Ag c8.out).tr m5.out).tr (d.out.tr (hS.wide (fun _ h=>.inr h)));refine ⟨((O.out.set (k:=0) _).set (k:=1) _).set (k:=2) _,(zd.refl _ w).trans hW (fun k hk h=>h.elim id (fun e=>by have:=a8.out;omega)),hS.blk e5.out (by have:=D.out;omega),?_⟩;refine .mk (cs:=cs') ((j1.out.keep (hS.same (fun b hb e=>by omega))).weaken (fun b hb=>by have:=a8.out;omega)) ((Ay.of_own (E.out.chg hS (fun b hb e=>by have:=I.out;omega)).own).weaken (fun b hb=>by have:=a8.out;have:=I.out;omega)) (fun i hi=>((E.out.chg hS (fun b hb e=>by have:=I.out;omega)).each i hi).keepW (fun _ _ _=>rfl) (fun b hb=>by have:=a8.out;have:=I.out;have:=hb.1;omega))
    clear E j1 f8 d h6 j4;rcases a1 with h0 | hb
    ·have d4:¬ ((j:Int)<n.1):=by have:=g5.out;omega
     have i2:decide ((j:Int)<n.1)=false:=Dc d4;clear J
     go_wp2_with fail
     exact read_end rfl rfl V.out.1 ⟨_,rfl,V.out.2⟩
    ·by_cases d4:(j:Int)<n.1
     ·have i2:decide ((j:Int)<n.1)=true:=Db d4;rw [hb] at J;have b4:=zh J;clear J
      go_wp2_with fail
      refine b4.out.mono ?_;rintro e w7 ⟨rfl,rfl⟩
      go_wp2_with fail
      exact read_end rfl rfl V.out.1 ⟨_,rfl,V.out.2⟩
     ·have i2:decide ((j:Int)<n.1)=false:=Dc d4;clear J
      go_wp2_with fail
      exact read_end rfl rfl V.out.1 ⟨_,rfl,V.out.2⟩
   ·have o0:j<N:=by omega
    have d4:(j:Int)<n.1:=by have:=g5.out;omega
    have i2:decide ((j:Int)<n.1)=true:=Db d4
    have i6:s'.2=false:=by
     cases h:s'.2 with
     | false=>rfl
     | true=>exact absurd (.inr h) a1
    have J:=Ca wq e5.out;rw [i6] at J;have b4:=zh J;have f3:=zh i6;have o7:(j:Int)+1<=9223372036854775807:=by have:=m9.out.2;omega
    clear J a1 i6
    go_wp2_with fail
    refine b4.out.mono ?_;rintro e w7 ⟨rfl,rfl⟩;clear b4;go_upto_region 6 with fail;have e1:Hid (zJ G N n.2 []=zJ G (N - (j+1)) (G s').2 (acc++[(G s').1])):=h7.out.trans (kidsF_step f3.out o0);have hd:=m6.out s' f3.out;have m0:=BV f3.out;have b9:=j4.out f3.out;have l9:=BV b9.1;have d7:Hid ((acc++[(G s').1]).length+lv (G s').2<=n.2.1.length+1):=by (show _<=_);have:=h6.out;rw [Dh,Dx];omega
    have e2:Hid ((G s').2.2=false->n.2.2=false/\lv (G s').2<=lv n.2):=fun _=>⟨b9.1,by omega⟩
    have g1:Hid (s'.1.length<f):=by (show _<_);have:=j7.out.2 b9.1;omega
    have c0:Hid (acc.length<=1000000001):=by (show _<=_);have:=h6.out;have:=j7.out.1;omega
    have k7:Hid (z9 wq):=Bb n5.out d.out (by
     rintro g (rfl | rfl)
     ·exact var_ne HV.out HR.out g rfl
     ·exact var_new HV.out (by have:=a8.out;omega))
    clear hd m0 b9 l9;refine Dp (S:=(fun W=>zd (fun b=>b=r\/b=gp) w6 W)) An (d.out.tr (Ag (za.refl wq).drew)) fun zH=>?_;have U:Hid (za wq wq.drew):=(za.refl wq).drew;generalize wq.drew=wd at zH U⊢;refine zj 0 zH ?_;refine zj 2 zH ?_;simp only [zc,CV];refine rdA [1,3] ?_;refine Dy rfl (fun K o=>?_) ?_
    ·have cg1:wd.cell? ⟨gp,2,none⟩=some vk:=zd.cellk (Ag (X:=fun b=>b=r) U.out) (O.out.cell (k:=2) rfl) (by have:=D.out;show ¬ (gp=r);omega);go_simp;clear cg1;refine DY o (d.out.tr ((Ag (X:=fun b=>b=r) U.out).wide (fun _ h=>.inl h))) fun zH=>?_;clear o K;try simp only [zc,CV]
     refine Aa 3 fun K o=>?_;go_simp;go_at_call 41;refine (IH.out r s' wd (k7.out.ext U.out) (e5.out.ext U.out) g1.out).mono ?_;rintro e w2 ⟨v2,rfl,c9,e7,i0⟩;obtain ⟨As2,cs2,Ak2,ck2,rfl,-⟩:=i0.form;have a2:Hid (zd (fun b=>b=r) wq w2):=(Ag U.out).tr c9;have n0:=zh i0;have n6:=zh e7;have g4:Hid (wq.heap.size<=wd.heap.size):=U.out.size;clear c9 i0 e7;refine DY o (d.out.tr ((a2.out).wide (fun _ h=>.inl h))) fun zH=>?_;clear o K;try simp only [zc,CV]
     refine Aa 4 fun K o=>?_;go_simp;have f4:=ze.new w2 #[.int .i64 (G s').1.task,.slice As2 (G s').1.side.length cs2,.slice Ak2 (G s').1.kids.length ck2] 27 (g:=w2.heap.size) rfl;have hA3:za w2 (w2.alloc (.cells #[.int .i64 (G s').1.task,.slice As2 (G s').1.side.length cs2,.slice Ak2 (G s').1.kids.length ck2] 27)):=(za.refl w2).alloc _;generalize w2.alloc _=w3 at f4 hA3⊢;generalize w2.heap.size=g3 at f4⊢;have m3:=zh f4;have a0:Hid (zd (fun b=>b=r) wq w3):=(a2.out).tr (Ag hA3);have n1:=zh (n0.out.ext hA3);have l0:=zh (n6.out.ext hA3);clear f4 hA3;refine DY o (d.out.tr ((a0.out).wide (fun _ h=>.inl h))) fun zH=>?_;clear o K;try simp only [zc,CV]
     refine Aa 5 fun K o=>?_;have j3:Hid (zO w3 w6.heap.size vk acc cs'):=E.out.chg (a0.out) (fun b hb e=>by have:=I.out;have:=D.out;omega);refine zu (ok:=fun _=>True) (by rfl) w3 _ _ BQ (by rfl) w6.heap.size acc.length 1 cs' _ vk _ (by rfl) (by rfl) j3.out.own (AH m3.out) (fun u hu=>by simp at hu;rcases hu with rfl | rfl | rfl <;> rfl) (by have h1:=d.out.size;have h2:=zd.size (a0.out);omega) (by have:=c0.out;unfold maxLen;omega) (by have:=c0.out;omega) ?_;intro v4 w4 i5 e8 m2;have m8:=zh (show zO w4 w6.heap.size _ (acc++[(G s').1]) (cs'++[.int .i64 (G s').1.task,.slice As2 (G s').1.side.length cs2,.slice Ak2 (G s').1.kids.length ck2]) from j3.out.app (lo:=wd.heap.size) n1.out (fun k hk=>by have h1:=E.out.lt hk;have h2:=g4.out;omega) (by have h1:=d.out.size;have h2:=g4.out;omega) i5 e8 m2);have f2:Hid (zd (fun b=>b=r\/b=gp) w6 w4):=zd.grown (d.out.tr ((a0.out).wide (fun _ h=>.inl h))) e8 (fun k hk e9=>by have h1:=E.out.lt hk;omega);obtain ⟨A4,c4,e4,-,-⟩:=Ay.of_own i5;subst e4;have e3:Hid (ze w4 gp 27 #[.int .i64 t.1,.slice As u.1.length cs,vk]):=(e8.block gp (by have h1:=I.out;have h2:=d.out.size;have h3:=zd.size (a0.out);omega) (fun e=>by have h1:=E.out.lt e.symm;have h2:=I.out;omega)).trans (zd.blk (a0.out) O.out (by have:=D.out;omega));have n7:Hid (Ai w4 r (G s').2):=(e8.block r (zb l0.out) (fun e=>by have h1:=E.out.lt e.symm;have h2:=I.out;have h3:=D.out;omega)).trans l0.out;clear i5 e8 m2;refine DY o (f2.out) fun zH=>?_;clear o K;try simp only [zc,CV]
     refine Aa 6 fun K o=>?_;go_simp;refine DY o (f2.out) fun zH=>?_;clear o K;try simp only [zc,CV]
     refine Aa 7 fun K o=>?_;have cg6:=e3.out.cell (k:=2) rfl;have fg6:=e3.out.frozen 2;go_simp;clear cg6 fg6;refine DY o (zd.set (f2.out) gp 2 (.slice A4 (acc.length+1) c4) (.inr rfl)) fun zH=>?_;clear o K;try simp only [zc,CV]
     refine DB (by kernel_rfl) ?_ _;have a4:Hid (zd (fun b=>b=r\/b=gp) w6 (w4.setCell ⟨gp,2,none⟩ (.slice A4 (acc.length+1) c4))):=zd.set (f2.out) gp 2 (.slice A4 (acc.length+1) c4) (.inr rfl);have M:Hid (ze (w4.setCell ⟨gp,2,none⟩ (.slice A4 (acc.length+1) c4)) gp 27 #[.int .i64 t.1,.slice As u.1.length cs,(.slice A4 (acc.length+1) c4)]):=e3.out.set (k:=2) (.slice A4 (acc.length+1) c4);have a5:Hid (Ai (w4.setCell ⟨gp,2,none⟩ (.slice A4 (acc.length+1) c4)) r (G s').2):=ze.setOther n7.out (a:=⟨gp,2,none⟩) (by have:=D.out;show r≠gp;omega) (.slice A4 (acc.length+1) c4);have a3:=zh (m8.out.chg (zd.set (X:=fun b=>b=gp) (zd.refl _ w4) gp 2 (.slice A4 (acc.length+1) c4) rfl) (fun b hb e=>by have:=I.out;omega));generalize w4.setCell ⟨gp,2,none⟩ (.slice A4 (acc.length+1) c4)=wz at a4 M a5 a3⊢;go_wp2;go_roundw
     case rel=>exact ⟨j+1,acc++[(G s').1],_,_,(G s').2,by go_num,by omega,e1.out,a4.out,a5.out,M.out,a3.out,d7.out,e2.out⟩
     case measure=>simp [intOf];omega
    refine Dy rfl (fun K o=>?_) .nil;go_simp;go_at_call 41;refine (IH.out r s' wd (k7.out.ext U.out) (e5.out.ext U.out) g1.out).mono ?_;rintro e w7 ⟨v7,rfl,l3,l6,i1⟩;obtain ⟨As7,cs7,Ak7,ck7,rfl,-⟩:=i1.form;have d9:Hid (zd (fun b=>b=r) wq w7):=(Ag U.out).tr l3;have k3:=zh i1;have l1:=zh l6;have b7:Hid (wq.heap.size<=wd.heap.size):=U.out.size;clear l3 i1 l6;refine DY o (d.out.tr ((d9.out).wide (fun _ h=>.inl h))) fun zH=>?_;clear o K;try simp only [zc,CV]
    refine rdA [1,4] ?_;refine Dy rfl (fun K o=>?_) ?_
    ·have cg8:w7.cell? ⟨gp,2,none⟩=some vk:=zd.cellk (d9.out) (O.out.cell (k:=2) rfl) (by have:=D.out;show ¬ (gp=r);omega);go_simp;clear cg8;refine DY o (d.out.tr ((d9.out).wide (fun _ h=>.inl h))) fun zH=>?_;clear o K;try simp only [zc,CV]
     refine Aa 4 fun K o=>?_;go_simp;have f5:=ze.new w7 #[.int .i64 (G s').1.task,.slice As7 (G s').1.side.length cs7,.slice Ak7 (G s').1.kids.length ck7] 27 (g:=w7.heap.size) rfl;have hA9:za w7 (w7.alloc (.cells #[.int .i64 (G s').1.task,.slice As7 (G s').1.side.length cs7,.slice Ak7 (G s').1.kids.length ck7] 27)):=(za.refl w7).alloc _;generalize w7.alloc _=w9 at f5 hA9⊢;generalize w7.heap.size=g9 at f5⊢;have m4:=zh f5;have c7:Hid (zd (fun b=>b=r) wq w9):=(d9.out).tr (Ag hA9);have n2:=zh (k3.out.ext hA9);have l2:=zh (l1.out.ext hA9);clear f5 hA9;refine DY o (d.out.tr ((c7.out).wide (fun _ h=>.inl h))) fun zH=>?_;clear o K;try simp only [zc,CV]
     refine Aa 5 fun K o=>?_;have f9:Hid (zO w9 w6.heap.size vk acc cs'):=E.out.chg (c7.out) (fun b hb e=>by have:=I.out;have:=D.out;omega);refine zu (ok:=fun _=>True) (by rfl) w9 _ _ BQ (by rfl) w6.heap.size acc.length 1 cs' _ vk _ (by rfl) (by rfl) f9.out.own (AH m4.out) (fun u hu=>by simp at hu;rcases hu with rfl | rfl | rfl <;> rfl) (by have h1:=d.out.size;have h2:=zd.size (c7.out);omega) (by have:=c0.out;unfold maxLen;omega) (by have:=c0.out;omega) ?_;intro v10 w10 f0 a6 g8;have j5:=zh (show zO w10 w6.heap.size _ (acc++[(G s').1]) (cs'++[.int .i64 (G s').1.task,.slice As7 (G s').1.side.length cs7,.slice Ak7 (G s').1.kids.length ck7]) from f9.out.app (lo:=wd.heap.size) n2.out (fun k hk=>by have h1:=E.out.lt hk;have h2:=b7.out;omega) (by have h1:=d.out.size;have h2:=b7.out;omega) f0 a6 g8);have b5:Hid (zd (fun b=>b=r\/b=gp) w6 w10):=zd.grown (d.out.tr ((c7.out).wide (fun _ h=>.inl h))) a6 (fun k hk e9=>by have h1:=E.out.lt hk;omega);obtain ⟨A10,c10,e10,-,-⟩:=Ay.of_own f0;subst e10;have a9:Hid (ze w10 gp 27 #[.int .i64 t.1,.slice As u.1.length cs,vk]):=(a6.block gp (by have h1:=I.out;have h2:=d.out.size;have h3:=zd.size (c7.out);omega) (fun e=>by have h1:=E.out.lt e.symm;have h2:=I.out;omega)).trans (zd.blk (c7.out) O.out (by have:=D.out;omega));have k8:Hid (Ai w10 r (G s').2):=(a6.block r (zb l2.out) (fun e=>by have h1:=E.out.lt e.symm;have h2:=I.out;have h3:=D.out;omega)).trans l2.out;clear f0 a6 g8;refine DY o (b5.out) fun zH=>?_;clear o K;try simp only [zc,CV]
     refine Aa 6 fun K o=>?_;go_simp;refine DY o (b5.out) fun zH=>?_;clear o K;try simp only [zc,CV]
     refine Aa 7 fun K o=>?_;have cg12:=a9.out.cell (k:=2) rfl;have fg12:=a9.out.frozen 2;go_simp;clear cg12 fg12;refine DY o (zd.set (b5.out) gp 2 (.slice A10 (acc.length+1) c10) (.inr rfl)) fun zH=>?_;clear o K;try simp only [zc,CV]
     refine DB (by kernel_rfl) ?_ _;have a4:Hid (zd (fun b=>b=r\/b=gp) w6 (w10.setCell ⟨gp,2,none⟩ (.slice A10 (acc.length+1) c10))):=zd.set (b5.out) gp 2 (.slice A10 (acc.length+1) c10) (.inr rfl);have M:Hid (ze (w10.setCell ⟨gp,2,none⟩ (.slice A10 (acc.length+1) c10)) gp 27 #[.int .i64 t.1,.slice As u.1.length cs,(.slice A10 (acc.length+1) c10)]):=a9.out.set (k:=2) (.slice A10 (acc.length+1) c10);have a5:Hid (Ai (w10.setCell ⟨gp,2,none⟩ (.slice A10 (acc.length+1) c10)) r (G s').2):=ze.setOther k8.out (a:=⟨gp,2,none⟩) (by have:=D.out;show r≠gp;omega) (.slice A10 (acc.length+1) c10);have a3:=zh (j5.out.chg (zd.set (X:=fun b=>b=gp) (zd.refl _ w10) gp 2 (.slice A10 (acc.length+1) c10) rfl) (fun b hb e=>by have:=I.out;omega));generalize w10.setCell ⟨gp,2,none⟩ (.slice A10 (acc.length+1) c10)=wz at a4 M a5 a3⊢;go_wp2;go_roundw
     case rel=>exact ⟨j+1,acc++[(G s').1],_,_,(G s').2,by go_num,by omega,e1.out,a4.out,a5.out,M.out,a3.out,d7.out,e2.out⟩
     case measure=>simp [intOf];omega
    refine Dy rfl (fun K o=>?_) .nil;go_simp;have b8:=ze.new w7 #[.int .i64 (G s').1.task,.slice As7 (G s').1.side.length cs7,.slice Ak7 (G s').1.kids.length ck7] 27 (g:=w7.heap.size) rfl;have hA13:za w7 (w7.alloc (.cells #[.int .i64 (G s').1.task,.slice As7 (G s').1.side.length cs7,.slice Ak7 (G s').1.kids.length ck7] 27)):=(za.refl w7).alloc _;generalize w7.alloc _=w13 at b8 hA13⊢;generalize w7.heap.size=g13 at b8⊢;have i8:=zh b8;have L:Hid (zd (fun b=>b=r) wq w13):=(d9.out).tr (Ag hA13);have j9:=zh (k3.out.ext hA13);have g7:=zh (l1.out.ext hA13);clear b8 hA13;refine DY o (d.out.tr ((L.out).wide (fun _ h=>.inl h))) fun zH=>?_;clear o K;try simp only [zc,CV]
    refine Aa 1 fun K o=>?_;have cg14:w13.cell? ⟨gp,2,none⟩=some vk:=zd.cellk (L.out) (O.out.cell (k:=2) rfl) (by have:=D.out;show ¬ (gp=r);omega);go_simp;clear cg14;refine DY o (d.out.tr ((L.out).wide (fun _ h=>.inl h))) fun zH=>?_;clear o K;try simp only [zc,CV]
    refine Aa 5 fun K o=>?_;have g0:Hid (zO w13 w6.heap.size vk acc cs'):=E.out.chg (L.out) (fun b hb e=>by have:=I.out;have:=D.out;omega);refine zu (ok:=fun _=>True) (by rfl) w13 _ _ BQ (by rfl) w6.heap.size acc.length 1 cs' _ vk _ (by rfl) (by rfl) g0.out.own (AH i8.out) (fun u hu=>by simp at hu;rcases hu with rfl | rfl | rfl <;> rfl) (by have h1:=d.out.size;have h2:=zd.size (L.out);omega) (by have:=c0.out;unfold maxLen;omega) (by have:=c0.out;omega) ?_;intro v15 w15 f1 a7 h5;have j6:=zh (show zO w15 w6.heap.size _ (acc++[(G s').1]) (cs'++[.int .i64 (G s').1.task,.slice As7 (G s').1.side.length cs7,.slice Ak7 (G s').1.kids.length ck7]) from g0.out.app (lo:=wd.heap.size) j9.out (fun k hk=>by have h1:=E.out.lt hk;have h2:=b7.out;omega) (by have h1:=d.out.size;have h2:=b7.out;omega) f1 a7 h5);have b6:Hid (zd (fun b=>b=r\/b=gp) w6 w15):=zd.grown (d.out.tr ((L.out).wide (fun _ h=>.inl h))) a7 (fun k hk e9=>by have h1:=E.out.lt hk;omega);obtain ⟨A15,c15,e15,-,-⟩:=Ay.of_own f1;subst e15;have b3:Hid (ze w15 gp 27 #[.int .i64 t.1,.slice As u.1.length cs,vk]):=(a7.block gp (by have h1:=I.out;have h2:=d.out.size;have h3:=zd.size (L.out);omega) (fun e=>by have h1:=E.out.lt e.symm;have h2:=I.out;omega)).trans (zd.blk (L.out) O.out (by have:=D.out;omega));have k9:Hid (Ai w15 r (G s').2):=(a7.block r (zb g7.out) (fun e=>by have h1:=E.out.lt e.symm;have h2:=I.out;have h3:=D.out;omega)).trans g7.out;clear f1 a7 h5;refine DY o (b6.out) fun zH=>?_;clear o K;try simp only [zc,CV]
    refine Aa 6 fun K o=>?_;go_simp;refine DY o (b6.out) fun zH=>?_;clear o K;try simp only [zc,CV]
    refine Aa 7 fun K o=>?_;have cg17:=b3.out.cell (k:=2) rfl;have fg17:=b3.out.frozen 2;go_simp;clear cg17 fg17;refine DY o (zd.set (b6.out) gp 2 (.slice A15 (acc.length+1) c15) (.inr rfl)) fun zH=>?_;clear o K;try simp only [zc,CV]
    refine DB (by kernel_rfl) ?_ _;have a4:Hid (zd (fun b=>b=r\/b=gp) w6 (w15.setCell ⟨gp,2,none⟩ (.slice A15 (acc.length+1) c15))):=zd.set (b6.out) gp 2 (.slice A15 (acc.length+1) c15) (.inr rfl);have M:Hid (ze (w15.setCell ⟨gp,2,none⟩ (.slice A15 (acc.length+1) c15)) gp 27 #[.int .i64 t.1,.slice As u.1.length cs,(.slice A15 (acc.length+1) c15)]):=b3.out.set (k:=2) (.slice A15 (acc.length+1) c15);have a5:Hid (Ai (w15.setCell ⟨gp,2,none⟩ (.slice A15 (acc.length+1) c15)) r (G s').2):=ze.setOther k9.out (a:=⟨gp,2,none⟩) (by have:=D.out;show r≠gp;omega) (.slice A15 (acc.length+1) c15);have a3:=zh (j6.out.chg (zd.set (X:=fun b=>b=gp) (zd.refl _ w15) gp 2 (.slice A15 (acc.length+1) c15) rfl) (fun b hb e=>by have:=I.out;omega));generalize w15.setCell ⟨gp,2,none⟩ (.slice A15 (acc.length+1) c15)=wz at a4 M a5 a3⊢;go_wp2;go_roundw
    case rel=>exact ⟨j+1,acc++[(G s').1],_,_,(G s').2,by go_num,by omega,e1.out,a4.out,a5.out,M.out,a3.out,d7.out,e2.out⟩
    case measure=>simp [intOf];omega
def decF (l:List UInt8):Option PT:=if (CE (l.length+1) (l,false)).2.2=true\/0<zr (CE (l.length+1) (l,false)).2\/zI (CE (l.length+1) (l,false)).1≠l then none else some (CE (l.length+1) (l,false)).1
mutual
def PT.wt:PT->Nat
 | .node _ s ks=>1+s.length+PT.wtL ks
def PT.wtL:List PT->Nat
 | []=>0
 | k :: ks=>k.wt+PT.wtL ks
end
theorem wtL_app:∀(a b:List PT),PT.wtL (a++b)=PT.wtL a+PT.wtL b
 | [],b=>by simp [PT.wtL]
 | k :: a,b=>by rw [List.cons_append];simp only [PT.wtL,wtL_app a b];omega
theorem intF_lv (s:Rd):lv (zw s).2<=lv s - 1:=by
 cases d:s.2 with
 | true=>rw [intF_bad d];simp [lv]
 | false=>have:=lv_dec (AW s).2 d;omega
theorem elsF_lv:∀(f:Nat) (s:Rd) (l:List Int),(zZ f s l).1.length+lv (zZ f s l).2<=l.length+lv s/\((∀x∈l,Cp x)->∀x∈(zZ f s l).1,Cp x)
 | 0,s,l=>⟨CY _,fun h=>h⟩
 | f+1,s,l=>by
  unfold zZ
  split
  ·exact ⟨CY _,fun h=>h⟩
  ·rename_i d
   have o:s.2=false:=by
    cases h:s.2 with
    | false=>rfl
    | true=>exact absurd (.inl (by unfold zr;rw [h];rfl)) d
   obtain ⟨h1,h2⟩:=elsF_lv f (zw s).2 (l++[(zw s).1]);have r:=intF_lv s;have D:=BV o;refine ⟨by rw [Dh,Dx] at h1;omega,fun h=>h2 fun x hx=>?_⟩;rcases DK.1 hx with hx | hx
   ·exact h x hx
   ·rw [DD.1 hx];exact Cv s
theorem intsF_lv (s:Rd):(zy s).1.length+lv (zy s).2<=lv s/\∀x∈(zy s).1,Cp x:=by
 unfold zy
 split
 ·exact ⟨by simp [lv],fun x d=>by cases d⟩
 ·rename_i D
  have E:s.2=false:=by
   cases h:s.2 with
   | false=>rfl
   | true=>exact absurd (.inl (by unfold zr;rw [h];rfl)) D
  obtain ⟨h1,h2⟩:=elsF_lv s.1.tail.length (s.1.tail,false) [];have h0:lv (s.1.tail,false)<=lv s:=by rw [BV E];simp [lv]
  unfold intsE
  split
  ·exact ⟨by simp [lv],fun x d=>by cases d⟩
  ·rename_i r
   have o:(zZ s.1.tail.length (s.1.tail,false) []).2.2=false:=by
    cases h:(zZ s.1.tail.length (s.1.tail,false) []).2.2 with
    | false=>rfl
    | true=>exact absurd (by unfold zr;rw [h];rfl) r
   have G:lv ((zZ s.1.tail.length (s.1.tail,false) []).2.1.tail,false)<=lv (zZ s.1.tail.length (s.1.tail,false) []).2:=by rw [BV o];simp [lv]
   refine ⟨?_,h2 fun x d=>by cases d⟩;simp only [DW,Nat.zero_add] at h1;show (zZ s.1.tail.length (s.1.tail,false) []).1.length+lv ((zZ s.1.tail.length (s.1.tail,false) []).2.1.tail,false)<=_;omega
theorem okL_of:∀{ks:List PT},(∀k∈ks,k.Ok)->PT.OkL ks
 | [],_=>by unfold PT.OkL;exact True.intro
 | k :: ks,h=>by
  unfold PT.OkL;exact ⟨h k (DH ..),okL_of fun x d=>h x (Dt _ d)⟩
theorem kidsF_wt {g:Rd->PT×Rd} (E:∀s,s.2=false->(g s).1.wt+lv (g s).2<=lv s/\(s.1.length<=1000000000->(g s).1.Ok)/\((g s).2.2=false->(g s).2.1.length<=s.1.length)):∀(n:Nat) (s:Rd) (ks:List PT),PT.wtL (zJ g n s ks).1+lv (zJ g n s ks).2<=PT.wtL ks+lv s/\ks.length+(zJ g n s ks).1.length<=ks.length+ks.length+lv s/\(s.1.length<=1000000000->(∀k∈ks,k.Ok)->∀k∈(zJ g n s ks).1,k.Ok)
 | 0,s,ks=>⟨CY _,by simp [zJ],fun _ h=>h⟩
 | n+1,s,ks=>by
  unfold zJ
  split
  ·exact ⟨CY _,by show ks.length+ks.length<=_;omega,fun _ h=>h⟩
  ·rename_i r
   have r:s.2=false:=by simpa using r
   obtain ⟨h1,h2,I⟩:=E s r;obtain ⟨D,J,G⟩:=kidsF_wt E n (g s).2 (ks++[(g s).1]);rw [wtL_app] at D;simp only [PT.wtL] at D;have O:1<=(g s).1.wt:=by cases (g s).1;unfold PT.wt;omega
   have M:=BV r;refine ⟨by omega,by rw [Dh,Dx] at J;omega,fun K L=>?_⟩
   have o:∀k∈ks++[(g s).1],k.Ok:=fun k hk2=>by
    rcases DK.1 hk2 with hk2 | hk2
    ·exact L k hk2
    ·rw [DD.1 hk2];exact h2 K
   cases d:(g s).2.2 with
   | false=>exact G (by have:=I d;omega) o
   | true=>
    rw [kidsF_stop (.inr d)];exact o
theorem rdF_wt:∀(f:Nat) (s:Rd),s.2=false->(CE f s).1.wt+lv (CE f s).2<=lv s/\(s.1.length<=1000000000->(CE f s).1.Ok)/\((CE f s).2.2=false->(CE f s).2.1.length<=s.1.length)
 | 0,s,o=>by
  rw [BV o];refine ⟨by simp [CE,PT.zero,PT.wt,PT.wtL,lv],fun _=>?_,fun h=>by cases h⟩;show PT.Ok (.node 0 [] []);unfold PT.Ok PT.OkL;exact ⟨⟨by decide,by decide⟩,(fun x D=>by cases D),by simp,by simp,True.intro⟩
 | f+1,s,o=>by
  have a1:=intF_lv s;obtain ⟨a2,a3⟩:=intsF_lv (zw s).2;have a4:=intF_lv (zy (zw s).2).2;obtain ⟨a5,a6,a7⟩:=kidsF_wt (fun s h=>rdF_wt f s h) (zw (zy (zw s).2).2).1.toNat (zw (zy (zw s).2).2).2 [];have a8:=BV o;have a9:=three_len s
  have d:(CE (f+1) s).2.2=false->(CE (f+1) s).2.1.length<=s.1.length:=fun h=>by
   have h1:=kidsF_lv (g:=CE f) (fun s h=>Nat.le_of_lt (rdF_lv f s h)) (zw (zy (zw s).2).2).1.toNat (zw (zy (zw s).2).2).2 []
   have h2:lv (CE (f+1) s).2<=lv s:=by
    have:lv (CE (f+1) s).2<=lv (zw (zy (zw s).2).2).2:=h1;omega
   rw [BV h,a8] at h2;omega
  refine ⟨?_,fun E=>?_,d⟩
  ·show (PT.node _ _ _).wt+lv (zJ _ _ _ _).2<=_;unfold PT.wt;simp only [PT.wtL] at a5;omega
  ·show (PT.node _ _ _).Ok;unfold PT.Ok;refine ⟨Cv s,a3,by omega,?_,okL_of (a7 (by omega) fun k r=>by cases r)⟩;simp only [DW,Nat.zero_add] at a6;omega
mutual
theorem enc_wt:∀(p:PT),p.Ok->(zI p).length<=50*p.wt/\p.size<=p.wt
 | .node t s ks,h=>by
  unfold PT.Ok at h;obtain ⟨h1,h2,o,r,d⟩:=h;have b1:=wI_len h1;have b2:=wIs_len h2;have b3:=wI_len (n:=(ks.length:Nat)) ⟨by omega,by omega⟩;obtain ⟨b4,b5⟩:=encs_wt ks d;unfold zI PT.wt PT.size;simp only [wL,Dh,DV,DW];exact ⟨by omega,by omega⟩
theorem encs_wt:∀(ks:List PT),PT.OkL ks->(zC ks).length<=50*PT.wtL ks/\PT.sizeL ks<=PT.wtL ks
 | [],_=>by simp [zC,PT.wtL,PT.sizeL]
 | k :: ks,h=>by
  unfold PT.OkL at h;obtain ⟨b1,b2⟩:=enc_wt k h.1;obtain ⟨b3,b4⟩:=encs_wt ks h.2;unfold zC PT.wtL PT.sizeL;rw [Dh];exact ⟨by omega,by omega⟩
end
def decR (l:List UInt8):Int×PT:=if 262144<l.length then (2,.zero) else match decF l with
 | none=>(4,.zero)
 | some p=>(0,p)
theorem dec_end {a:Act} {W:World} {n:Int} (o:a.tmps[2]?=some (.pointer (some ⟨gp,0,none⟩))) (r:a.tmps[3]?=some (.int .i64 n)) (D:a.defers=[]) (d:ze W gp 27 #[x,y,z]) (h:R (.returned (.tuple #[.agg #[x,y,z],.int .i64 n])) W):bodyPost Tryz.prog Tryz.f16 R Exit.ret a W:=by
 have c0:=d.cell (k:=0) rfl;have c1:=d.cell (k:=1) rfl;have c2:=d.cell (k:=2) rfl;have e:a.tmps.getD 2 undef=.pointer (some ⟨gp,0,none⟩):=by rw [Array.getD_eq_getD_getElem?,o];rfl
 have e3:a.tmps.getD 3 undef=.int .i64 n:=by rw [Array.getD_eq_getD_getElem?,r];rfl
 exact DM (v:=.tuple #[.agg #[x,y,z],.int .i64 n]) (by simp [results,Tryz.results16,go_sem,o,r,e,e3,c0,c1,c2]) D h
theorem dec_fin {wq:World} {v0 v1 v2:Value} {d:Int×PT} {p:PT} {n:Int} {a:Act} (K:gp=w.heap.size) (E:Below gp w wq) (r:ze wq gp 27 #[v0,v1,v2]) (hp:zV wq (fun b=>gp<b) (.agg #[x,y,z]) p) (J:d=(n,p)) (I:a.tmps[2]?=some (.pointer (some ⟨gp,0,none⟩))) (L:a.tmps[3]?=some (.int .i64 n)) (D:a.defers=[]):
  bodyPost Tryz.prog Tryz.f16 (fun e w'=>∃v,e=.returned (.tuple #[v,.int .i64 d.1])/\za w w'/\zV w' (fun b=>w.heap.size<=b) v d.2) Exit.ret a (((wq.setCell ⟨gp,0,none⟩ x).setCell ⟨gp,1,none⟩ y).setCell ⟨gp,2,none⟩ z):=by
 subst J;have G:zd (fun b=>b=gp) wq (((wq.setCell ⟨gp,0,none⟩ x).setCell ⟨gp,1,none⟩ y).setCell ⟨gp,2,none⟩ z):=(((zd.refl (fun b=>b=gp) _).set gp 0 _ rfl).set gp 1 _ rfl).set gp 2 _ rfl
 have o:za w (((wq.setCell ⟨gp,0,none⟩ x).setCell ⟨gp,1,none⟩ y).setCell ⟨gp,2,none⟩ z):=by
  subst K;exact ((E.setCell (p:=⟨_,0,none⟩) (CY _) _).setCell (p:=⟨_,1,none⟩) (CY _) _).setCell (p:=⟨_,2,none⟩) (CY _) _
 exact dec_end I L D (((r.set (k:=0) x).set (k:=1) y).set (k:=2) z) ⟨_,rfl,o,hp.keepW (G.same fun b r e=>by omega) fun b r=>by omega⟩
theorem dec_calls {l:List UInt8} (w:World) (hv:z9 w):Calls Tryz.prog 16 #[.string ⟨l.toArray⟩] w fun e w'=>∃v,e=.returned (.tuple #[v,.int .i64 (decR l).1])/\za w w'/\zV w' (fun b=>w.heap.size<=b) v (decR l).2:=by
 have HV:=zh hv;obtain ⟨d,hd⟩:=DX (decR l);rw [<-hd];have HD:=zh hd;clear hv hd
 go_enter Tryz.func16,Tryz.ntmps16
 go_upto_region 1 with fail;have E:Hid (ze (w.alloc (.cells #[.int .i64 0,.slice none 0 0,.slice none 0 0] 27)) w.heap.size 27 #[.int .i64 0,.slice none 0 0,.slice none 0 0]):=ze.new _ _ _ rfl;have a6:Hid (za w (w.alloc (.cells #[.int .i64 0,.slice none 0 0,.slice none 0 0] 27))):=(za.refl w).alloc _;generalize w.alloc _=w1 at E a6⊢;obtain ⟨gp,b8⟩:∃g,g=w.heap.size:=⟨_,rfl⟩;rw [<-b8] at E⊢;have J:=zh b8;have fz:∀k,w1.frozen? ⟨gp,k,none⟩=false:=fun k=>E.out.frozen k
 have b0:=E.out.cell (k:=0) rfl;have b1:=E.out.cell (k:=1) rfl;have b2:=E.out.cell (k:=2) rfl;clear b8;by_cases hl:262144<l.length
 ·have I:Hid (d=(2,.zero)):=by (show _=_);rw [HD.out];unfold decR;rw [if_pos hl]
  have f2:(262144:Int)<(l.length:Int):=by omega
  have f3:decide (262144<l.length)=true:=Db hl
  go_wp2_with fail
  exact dec_fin J.out (by rw [J.out];exact a6.out) E.out (zV.zero _ _) I.out rfl rfl rfl
 ·have f2:¬ ((262144:Int)<(l.length:Int)):=by omega
  have f3:decide (262144<l.length)=false:=Dc hl;have e5:=zh (Nat.le_of_not_lt hl);obtain ⟨q,hq⟩:=DX (CE (l.length+1) (l,false))
  have M:Hid (d=match (if q.2.2=true\/0<zr q.2\/zI q.1≠l then none else some q.1) with | none=>(4,.zero) | some p=>(0,p)):=by
   (show _=_);rw [HD.out,hq];unfold decR;rw [if_neg hl];rfl
  have a4:=rdF_wt (l.length+1) (l,false) rfl;rw [<-hq] at a4;have b9:=a4.2.1 (by show l.length<=_;omega);have f1:=enc_wt q.1 b9;have f4:lv (l,false)=l.length+1:=BV rfl;have e6:=zh b9;have a7:Hid ((zI q.1).length<=9223372036854775000):=by (show _<=_);have:=a4.1;omega
  have HQ:=zh hq;clear hl a4 b9 f1 f4 hq b0 b1 b2 fz
  go_wp2_with fail
  refine (wNew_calls l w1).mono ?_;rintro e w2 ⟨rfl,a1,b6⟩;obtain ⟨r,hr⟩:=DX w1.heap.size;rw [<-hr] at b6⊢;have b3:Hid (gp<r/\r=w1.heap.size):=⟨by have:=zb E.out;omega,hr⟩;have d9:za w w2:=a6.out.trans a1;have d5:=zh b6;have c6:=zh (E.out.ext a1);have c8:=zh d9;have c7:=zh a1;clear b6 hr a1 d9 E
  go_wp2_with fail
  refine (read_calls (l.length+1) w2 (HV.out.ext c8.out) d5.out (Nat.lt_succ_self _) (by have:=e5.out;omega)).mono ?_;rintro e w3 ⟨v,rfl,b5,b7,a2⟩;rw [<-HQ.out] at b7 a2;obtain ⟨As,cs,Ak,ck,rfl,-⟩:=a2.form;have c9:Hid (zV w3 (fun b=>gp<b) (.agg #[.int .i64 q.1.task,.slice As q.1.side.length cs,.slice Ak q.1.kids.length ck]) q.1):=a2.keepW (fun _ _ _=>rfl) (fun b hb=>by have:=c7.out.size;have:=b3.out;omega);have a5:Hid (ze w3 gp 27 #[.int .i64 0,.slice none 0 0,.slice none 0 0]):=b5.blk c6.out (by have:=b3.out;omega);have d8:Hid (Below gp w w3):=by (show Below _ _ _);rw [J.out];exact (zd.trans (Ag c8.out) b5 (X:=(·=r)) (fun _ _ h=>h)).below (CY _) (fun b hb=>by have:=b3.out;have:=J.out;omega)
  have d6:=zh b7;clear b5 b7 a2 c6 d5;go_upto_region 5 with fail;obtain ⟨O,p0,p1,p2⟩:=box3 w3 (.int .i64 q.1.task) (.slice As q.1.side.length cs) (.slice Ak q.1.kids.length ck);generalize w3.alloc _=w4 at O p0 p1 p2⊢;obtain ⟨gq,e0⟩:∃g,g=w3.heap.size:=⟨_,rfl⟩;rw [<-e0] at p0 p1 p2⊢;have d4:=zh (c9.out.ext O);have G:=zh (a5.out.ext O);have a0:Hid (Below gp w w4):=Below.trans d8.out (O.mono (Nat.le_of_lt (zb a5.out)));have d7:=zh (d6.out.ext O);have e9:Hid (z9 w4):=HV.out.ext (by have:=a0.out;rw [J.out] at this;exact this);have L:=zh (Ca w4 d7.out);have a9:=zh (CR w4 d7.out);have hx:za w4 w4:=za.refl w4;have z0:=G.out.cell (k:=0) rfl;have z1:=G.out.cell (k:=1) rfl;have z2:=G.out.cell (k:=2) rfl;have fz:∀k,w4.frozen? ⟨gp,k,none⟩=false:=fun k=>G.out.frozen k
  clear e0 O c9 a5 d8 d6;by_cases o:q.2.2=true
  ·have I:Hid (d=(4,.zero)):=by (show _=_);rw [M.out,if_pos (.inl o)]
   rw [o] at L;clear o
   go_wp2_with fail
   refine L.out.mono ?_;rintro e w5 ⟨rfl,rfl⟩
   go_wp2_with fail
   exact dec_fin J.out a0.out G.out (zV.zero _ _) I.out rfl rfl rfl
  ·have a3:q.2.2=false:=by simpa using o
   rw [a3] at L;by_cases V:0<zr q.2
   ·have I:Hid (d=(4,.zero)):=by (show _=_);rw [M.out,if_pos (.inr (.inl V))]
    have e1:(0:Int)<(zr q.2:Int):=by omega
    have e2:decide (0<zr q.2)=true:=Db V;clear o a3
    go_wp2_with fail
    refine L.out.mono ?_;rintro e w5 ⟨rfl,rfl⟩
    go_wp2_with fail
    refine a9.out.mono ?_;rintro e w5 ⟨rfl,rfl⟩
    go_wp2_with fail
    exact dec_fin J.out a0.out G.out (zV.zero _ _) I.out rfl rfl rfl
   ·have e1:¬ ((0:Int)<(zr q.2:Int)):=by omega
    have e2:decide (0<zr q.2)=false:=Dc V;have a8:=zh (Cj q.1.size w4 e9.out d4.out (CY _) e6.out a7.out);by_cases U:zI q.1=l
    ·have I:Hid (d=(0,q.1)):=by (show _=_);rw [M.out,if_neg (fun h=>h.elim o fun h=>h.elim V fun h=>h U)]
     rw [U] at a8;clear o a3 V U M HD HQ a7
     go_wp2_with fail
     refine L.out.mono ?_;rintro e w5 ⟨rfl,rfl⟩
     go_wp2_with fail
     refine a9.out.mono ?_;rintro e w5 ⟨rfl,rfl⟩
     go_wp2_with fail
     refine a8.out.mono ?_;rintro e w6 ⟨rfl,K⟩;have e7:=zh (d4.out.ext K);have D:=zh (G.out.ext K);have b4:Hid (Below gp w w6):=Below.trans a0.out (K.mono (Nat.le_of_lt (zb G.out)));have y0:=D.out.cell (k:=0) rfl;have y1:=D.out.cell (k:=1) rfl;have y2:=D.out.cell (k:=2) rfl;have fy:∀k,w6.frozen? ⟨gp,k,none⟩=false:=fun k=>D.out.frozen k
     clear z0 z1 z2 fz hx;have hx:za w4 w6:=K;clear K
     go_wp2_with fail
     exact dec_fin J.out b4.out D.out e7.out I.out rfl rfl rfl
    ·have I:Hid (d=(4,.zero)):=by (show _=_);rw [M.out,if_pos (.inr (.inr U))]
     have g0:(zI q.1==l)=false:=by simp [U]
     clear o a3 V U M HD HQ a7
     go_wp2_with fail
     refine L.out.mono ?_;rintro e w5 ⟨rfl,rfl⟩
     go_wp2_with fail
     refine a9.out.mono ?_;rintro e w5 ⟨rfl,rfl⟩
     go_wp2_with fail
     refine a8.out.mono ?_;rintro e w6 ⟨rfl,K⟩;have D:=zh (G.out.ext K);have b4:Hid (Below gp w w6):=Below.trans a0.out (K.mono (Nat.le_of_lt (zb G.out)));have y0:=D.out.cell (k:=0) rfl;have y1:=D.out.cell (k:=1) rfl;have y2:=D.out.cell (k:=2) rfl;have fy:∀k,w6.frozen? ⟨gp,k,none⟩=false:=fun k=>D.out.frozen k
     clear z0 z1 z2 fz hx K
     go_wp2_with fail
     exact dec_fin J.out b4.out D.out (zV.zero _ _) I.out rfl rfl rfl
end
section
open Go
section
variable {P:Program} {ops:Array Oper} {Q:Exit->Act->World->Prop} {md:Region.Mode} {S:World->Prop}
def BB (P:Program) (md:Region.Mode) (ops:Array Oper) (Q:Exit->Act->World->Prop) (S:World->Prop):Nat->Array Bool->Act->World->Prop
 | 0,l,a,w=>Region.ready md ops l=[]/\Q .normal a w
 | n+1,l,a,w=>(Region.ready md ops l=[]->Q .normal a w)/\
  ∀i∈Region.ready md ops l,wpOp P ops Q i (fun a' w'=>((∀k,(l.setIfInBounds i true).getD k true=true)\/S w')/\BB P md ops Q S n (l.setIfInBounds i true) a' w') a w
theorem wpAny_of_last:∀(n:Nat) (l:Array Bool) (a:Act) (w:World),BB P md ops Q S n l a w->wpAny P md ops Q n l a w
 | 0,_,_,_,h=>h
 | n+1,_,_,_,h=>⟨h.1,fun i o=>wpOp_mono (fun a' w' d=>wpAny_of_last n _ a' w' d.2) (h.2 i o)⟩
def waitB (md:Region.Mode) (ops:Array Oper) (l:Array Bool) (i:Nat):Bool:=(List.range ops.size).any fun k=>!(l.getD k true) && (match ops[k]? with | some o=>o.after.any (fun e=>Region.binds md e && e.on==i) | none=>false)
theorem wpAnyL_first {ok:Oper} {v:Value} (hi:ops[i]?=some oi) (hk:ops[k]?=some ok) (hw:∃e∈ok.after,Region.binds md e=true/\e.on=i)
  (I:∀(j:Nat) (o:Oper) cs b,ops[j]?=some o->o.op≠.select cs b) (hQ:∀c a w,Q (.panic c) (a.put oi.dst v) w->Q (.panic c) a w):
  ∀(n:Nat) (l:Array Bool) (a:Act) (w:World),l.getD k true=false->k≠i->
   (∀j oj,ops[j]?=some oj->j≠i->l.getD j true=false->(∀e∈oj.after,Region.binds md e=true->e.on≠i)->oi.apart ops oj=true)->
   i∈Region.ready md ops l->YieldsIf P ops S oi v a->S w->BB P md ops Q S n (l.setIfInBounds i true) (a.put oi.dst v) w->BB P md ops Q S (n+1) l a w:=by
 intro n
 induction n with
 | zero=>
  intro l a w _ _ _ J hy K H;refine ⟨fun h=>(by rw [h] at J;cases J),fun j hj=>?_⟩;by_cases d:j=i
  ·subst d;exact hy.wpOp hi K ⟨.inr K,H⟩
  ·have h:=ready_mono hj d;rw [H.1] at h;cases h
 | succ n ih=>
  intro l a w a1 U r J hy K H;refine ⟨fun h=>(by rw [h] at J;cases J),fun j hj=>?_⟩;by_cases d:j=i
  ·subst d;exact hy.wpOp hi K ⟨.inr K,H⟩
  ·have h1:=H.2 j (ready_mono hj d);obtain ⟨E,oj,D,M⟩:=mem_ready.1 hj
   have G:∀e∈oj.after,Region.binds md e=true->e.on≠i:=fun e he hb q=>by
    have h1:=M e he hb;have h0:=(mem_ready.1 J).1;rw [q] at h1;rcases Dv i l.size with h' | h'
    ·simp [h'] at h0 h1;rw [h0] at h1;cases h1
    ·simp [Array.getElem?_eq_none h'] at h1
   have V:j≠k:=fun q=>by
    subst q;obtain ⟨e,he,hb,ho⟩:=hw;rw [hk] at D;injection D with D;subst D;exact G e he hb ho
   have h2:=wpOp_putIf D (r j oj D d E G) (fun cs b=>I i oi cs b hi) (fun cs b=>I j oj cs b D) hQ hy h1;have a2:(l.setIfInBounds j true).getD k true=false:=by rw [getD_set_ne true V];exact a1
   refine wpOp_mono (fun a' w' h3=>?_) h2
   have L:S w':=h3.2.1.resolve_left fun q=>by
    have h:=q k;rw [getD_set_ne true V,getD_set_ne true (Ne.symm U),a1] at h;cases h
   refine ⟨.inr L,ih (l.setIfInBounds j true) a' w' a2 U (fun x ox hx a3 a4 a0=>?_) (ready_mono J (Ne.symm d)) h3.1 L ?_⟩
   ·by_cases O:j=x
    ·subst O;exact r j ox hx a3 E a0
    ·rw [getD_set_ne true O] at a4;exact r x ox hx a3 a4 a0
   ·rw [Array.setIfInBounds_comm _ _ d];exact h3.2.2
theorem zm {v:Value} {a:Act} (K:ops[i]?=some oi) (hs:Region.noSelect ops=true) (hf:Region.free md ops l i=true) (M:(Region.ready md ops l).contains i=true) (J:waitB md ops l i=true)
  (V:∀c a w,Q (.panic c) (a.put oi.dst v) w->Q (.panic c) a w) (hy:YieldsIf P ops S oi v a) (hS:S w) (h:BB P md ops Q S n (l.setIfInBounds i true) (a.put oi.dst v) w):BB P md ops Q S (n+1) l a w:=by
 unfold waitB at J;obtain ⟨k,-,L⟩:=DS.1 J;rw [Dm,Bool.not_eq_true'] at L;obtain ⟨h1,h2⟩:=L
 cases D:ops[k]? with
 | none=>rw [D] at h2;cases h2
 | some ok=>
  rw [D] at h2
  have O:∃e∈ok.after,Region.binds md e=true/\e.on=i:=by
   obtain ⟨x,I,o,U⟩:=(by simpa using h2:∃x,∃h:x<ok.after.size,Region.binds md ok.after[x]=true/\ok.after[x].on=i);exact ⟨_,Array.getElem_mem I,o,U⟩
  have E:k≠i:=fun q=>by
   subst q;have G:k∈Region.ready md ops l:=by simpa using M
   obtain ⟨h0,oj,d,r⟩:=mem_ready.1 G;rw [D] at d;injection d with d;subst d;obtain ⟨e,he,hb,I⟩:=O;have o:=r e he hb;rw [I] at o;rcases Dv k l.size with h' | h'
   ·simp [h'] at h0 o;rw [h0] at o;cases o
   ·simp [Array.getElem?_eq_none h'] at o
  exact wpAnyL_first K D O (Region.noSelect_spec hs) V n l a w h1 E (Region.free_spec K hf) (by simpa using M) hy hS h
def zB (P:Program) (md:Region.Mode) (ops:Array Oper) (Q:Exit->Act->World->Prop) (S:World->Prop) (n:Nat) (l:Array Bool) (a:Act) (w:World) (rs:List Nat):Prop:=
 ∀i∈rs,wpOp P ops Q i (fun a' w'=>((∀k,(l.setIfInBounds i true).getD k true=true)\/S w')/\BB P md ops Q S n (l.setIfInBounds i true) a' w') a w
theorem zB.nil {a:Act}:zB P md ops Q S n l a w []:=fun _ h=>by cases h
theorem zB.cons {n:Nat} {l:Array Bool} {a:Act} {w:World} {i:Nat} {o:Oper} {rs:List Nat} (D:ops[i]?=some o)
  (h:∀K':Act->World->Prop,Shut (∀a w,S w->(S w->BB P md ops Q S n (l.setIfInBounds i true) a w)->K' a w)->if Region.wanted o (yielded ops a.tmps)=true then Oper.wp P o a w K' Q else K' (a.put o.dst undef) w)
  (E:zB P md ops Q S n l a w rs):zB P md ops Q S n l a w (i :: rs):=fun j hj=>by
 rcases DJ.1 hj with rfl | hj
 ·exact wpOp_step D (fun K' r=>h K' (fun a w d hW=>r a w ⟨.inr d,hW d⟩))
 ·exact E j hj
theorem zB.last {a:Act} {o:Oper} (E:ops[i]?=some o) (d:(l.setIfInBounds i true).all (fun b=>b)=true)
  (h:∀K':Act->World->Prop,Shut (∀a w,BB P md ops Q S n (l.setIfInBounds i true) a w->K' a w)->if Region.wanted o (yielded ops a.tmps)=true then Oper.wp P o a w K' Q else K' (a.put o.dst undef) w):zB P md ops Q S n l a w [i]:=fun j D=>by
 obtain rfl:=DD.1 D;refine wpOp_step E (fun K' r=>h K' (fun a w hW=>r a w ⟨.inl fun k=>?_,hW⟩));rw [Array.all_eq_true] at d;rcases Dv k (l.setIfInBounds j true).size with h' | h'
 ·rw [Array.getD_eq_getD_getElem?,Array.getElem?_eq_getElem h'];exact d k h'
 ·rw [Array.getD_eq_getD_getElem?,Array.getElem?_eq_none h'];rfl
theorem AN {rs:List Nat} {a:Act} (o:Region.ready md ops l=rs) (d:rs≠[]) (h:zB P md ops Q S n l a w rs):BB P md ops Q S (n+1) l a w:=
 ⟨fun h0=>absurd (o ▸ h0) d,o ▸ h⟩
theorem wpAnyL_done {a:Act} (d:Region.ready md ops l=[]) (h:Q .normal a w):∀n,BB P md ops Q S n l a w
 | 0=>⟨d,h⟩
 | _+1=>⟨fun _=>h,by rw [d];simp⟩
theorem wp_dark {c:Code} {a:Act} (h:∀Q':Exit->Act->World->Prop,(∀c (a a':Act) w,a.defers=a'.defers->Q' (.panic c) a w->Q' (.panic c) a' w)->Q'=Q->c.wp P Q' a w) (hp:∀c (a a':Act) w,a.defers=a'.defers->Q (.panic c) a w->Q (.panic c) a' w):c.wp P Q a w:=h Q hp rfl
theorem CS {id:Nat} {a:Act} (hm:P.follows .mixedOrders=true) (d:S w.drew) (h:S w.drew->BB P .any ops Q S ops.size (Array.replicate ops.size false) a w.drew):(Code.region id ops true).wp P Q a w:=
 wp_region_any hm (wpAny_of_last _ _ _ _ (h d))
end
end
end Go.Proofs.YtcnaogdgjkpkmaaGreatDoor
