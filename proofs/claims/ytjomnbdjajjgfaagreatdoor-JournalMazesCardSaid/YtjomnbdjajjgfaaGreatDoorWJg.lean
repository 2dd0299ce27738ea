import Derived.Test.YtjomnbdjajjgfaaGreatDoorWJf
import Derived.Deep.DeepCutAuto
set_option linter.unusedVariables false
set_option linter.unusedSimpArgs false
set_option maxRecDepth 100000
set_option maxHeartbeats 16000000
namespace Go.Proofs.YtjomnbdjajjgfaaGreatDoor
variable {x:Bool} {l:List Int} {ptrs:List Nat} {vs xs:List Value} {m:MZ} {cap gr r sz:Nat} {X Y:Nat->Prop} {o:Obj} {v v' vF' vT':Value} {w5 w9 wr:World}
section
open Go.RowKit
attribute [local go_sem ↓] Go.wp_at_zero Go.wp_at_succ
theorem one_isCh {s:RS} (h:zw m s.ch):zw m (s.one m).ch/\(s.one m).steps=s.steps+1:=by
 unfold RS.one
 split
 ·rename_i c D;exact ⟨(stepC_some h D).1,rfl⟩
 ·exact ⟨.nil,rfl⟩
theorem run_isCh {m:MZ}:∀(n:Nat) {s:RS},zw m s.ch->zw m (RS.run m n s).ch
 | 0,s,h=>h
 | n+1,s,h=>by
  unfold RS.run
  split
  ·exact h
  ·exact run_isCh n (one_isCh h).1
theorem run_steps {m:MZ}:∀(n:Nat) {s:RS},zw m s.ch->s.steps<=(RS.run m n s).steps/\(RS.run m n s).steps<=s.steps+n
 | 0,s,h=>⟨Int.le_refl _,by simp [RS.run]⟩
 | n+1,s,h=>by
  unfold RS.run
  split
  ·exact ⟨Int.le_refl _,by omega⟩
  ·have h1:=one_isCh h;have h2:=run_steps n h1.1;omega
structure RunR (w wr:World) (X Y:Nat->Prop) (g gr cap:Nat) (m:MZ) (s0:RS) (n:Nat) (s:RS) (pt:List Nat) (k:Nat):Prop where
 rt:Bc wr X Y g gr cap m s pt
 chg:zu X w wr
 run:RS.run m k s=RS.run m n s0
 ch:zw m s.ch
 st:0<=s.steps/\(k=0\/s.steps+k<=4000000000000000000)
def RunPost (w:World) (X Y:Nat->Prop) (g:Nat) (m:MZ) (s:RS) (e:Ending) (w':World):Prop:=
 e=.returned (.bool s.done)/\∃gr' cap' ptrs',Bc w' X Y g gr' cap' m s ptrs'/\zu X w w'
theorem stepN_calls {g:Nat} {s:RS} (n:Nat) (w:World) (h:Bc w X Y g gr cap m s ptrs) (gd:zZ m) (hl:Lens m) (hc:zw m s.ch) (hn:n<=1000000) (a0:0<=s.steps) (b0:n=0\/s.steps<=3000000000000000000)
  (Q:∀b,w.heap.size<=b->X b) (U:∀b,Y b->b<w.heap.size):
  Calls Tryz.prog 83 #[.pointer (some ⟨g,0,none⟩),.int .i64 n] w (RunPost w X Y g m (RS.run m n s)):=by
 have H0:Hid (RunR w w X Y g gr cap m s n s ptrs n):=⟨h,zu.refl _ _,rfl,hc,a0,by omega⟩;have GD:=zh gd;have HL:=zh hl;have a2:=zh Q;have a3:=zh U;have a6:w.cell? ⟨g,0,none⟩=some (.slice (some ⟨gr,0,none⟩) ptrs.length cap):=h.blk.cell (k:=0) rfl;have a9:ptrs.length=s.ch.length+1:=h.row.2.1;have a4:((ptrs.length:Int)==0)=false:=by rw [FM];omega
 obtain ⟨R,D⟩:=zaI (RS.run m n s);rw [<-D];have HR:=zh D;clear h gd hl hc Q U a0 b0 a9 D
 go_enter Tryz.func83,Tryz.ntmps83
 go_wp2_with fail
 clear a6 a4
 go_loopg [1] n (fun gk v wr=>∃gr cap s' pt,v=.int .i64 gk/\gk<=n/\Hid (RunR w wr X Y g gr cap m s n s' pt gk))
 case atStart=>exact ⟨gr,cap,s,ptrs,rfl,Fy _,H0⟩
 clear H0
 case round=>
  obtain ⟨gr,cap,s',pt,rfl,b8,D⟩:=hrel;have O:=D.out.rt;have V:wr.cell? ⟨g,1,none⟩=some (.bool s'.done):=O.blk.cell (k:=1) rfl;have M:=zh O;clear O;obtain ⟨d,hd⟩:=zaI s'.done;rw [<-hd] at V;have HD:=zh hd;clear hd
  cases gk with
  | zero=>
   have a8:decide ((0:Int)<((0:Nat):Int))=false:=by simp
   have E:RunPost w X Y g m R (.returned (.bool d)) wr:=by
    have h1:=D.out.run;rw [<-HR.out] at h1;rw [<-h1,HD.out];exact ⟨rfl,gr,cap,pt,M.out,D.out.chg⟩
   have G:=zh E;clear E
   go_wp2_with fail
   go_ret;exact G.out
  | succ k=>
   have a8:decide ((0:Int)<((k+1:Nat):Int))=true:=FB (by omega);have b5:(0:Int)<((k+1:Nat):Int):=by omega
   cases d with
   | true=>
    have E:RunPost w X Y g m R (.returned (.bool true)) wr:=by
     have h1:=D.out.run;rw [RS.run_done HD.out.symm,<-HR.out] at h1;rw [<-h1];exact ⟨by rw [<-HD.out],gr,cap,pt,M.out,D.out.chg⟩
    have G:=zh E;clear E
    go_wp2_with fail
    go_ret;exact G.out
   | false=>
    go_wp2_with fail
    refine (stepX_calls wr M.out GD.out HL.out D.out.ch D.out.st.1 (by have:=D.out.st.2;omega) (fun b hb=>a2.out b (FA D.out.chg.size hb)) (fun b hb=>zam (a3.out b hb) D.out.chg.size)).mono ?_;rintro e w5 ⟨rfl,gr',cap',pt',J,I⟩
    have HN:Hid (RunR w w5 X Y g gr' cap' m s n (s'.one m) pt' k):=by
     have h1:=one_isCh D.out.ch;have h2:=D.out.st;have h3:=D.out.run;unfold RS.run at h3;rw [<-HD.out,if_neg (by simp)] at h3;exact ⟨J,D.out.chg.tr I,h3.trans (by cases n <;> rfl),h1.1,by omega⟩
    clear J I V
    go_wp2_with fail
    go_roundg k
    case measure=>omega
    case rel=>exact ⟨gr',cap',_,pt',by go_num,by omega,HN⟩
structure FL (w wr:World) (v:Value) (vs:List Value) (l:List (List Int)):Prop where
 ext:za w wr
 own:Cy wr w.heap.size v vs
 len:vs.length=l.length
 each:∀(j:Nat) x,l[j]?=some x->∃u,vs[j]?=some u/\zQ wr w.heap.size u x
theorem FL.nil (w wr:World) (h:za w wr):FL w wr (.slice none 0 0) [] []:=⟨h,World.ownsRow_nil _ _ _ _,rfl,fun j x h=>by simp at h⟩
theorem FL.more {w w':World} {l:List (List Int)} (h:FL w wr v vs l) (D:za wr w'):FL w w' v vs l:=by
 have E:wr.grownBy w' none:=⟨D.os,D.tape,D.output,D.size,fun i G _=>D.block i G⟩;refine ⟨h.ext.trans D,h.own.kept E (by cases h:v.ownBlock <;> simp),h.len,fun j x I=>?_⟩;obtain ⟨u,M,J⟩:=h.each j x I;exact ⟨u,M,J.kept E (by cases h:u.ownBlock <;> simp)⟩
theorem own_neT {w:World} {B B':Nat} {e e':TypeId} {sz' n n':Nat} {xs':List Value} (h:w.ownsRow B e sz v n xs) (I:w.ownsRow B' e' sz' v' n' xs') (G:e≠e'):v.ownBlock=none\/v.ownBlock≠v'.ownBlock:=by
 rcases h.2 with ⟨rfl,_⟩ | ⟨g,cap,cur,rfl,_,hh,_⟩
 ·left;rfl
 ·right
  rcases I.2 with ⟨rfl,_⟩ | ⟨g',cap',cur',rfl,_,D,_⟩
  ·simp [Value.ownBlock]
  ·intro he;have E:g=g':=by simpa [Value.ownBlock] using he
   subst E;rw [hh] at D;injection D with D;injection D with _ ht;exact G ht
theorem FL.app {w w':World} {u:Value} {l:List (List Int)} {x:List Int} (h:FL w wr v vs l) (U:zQ wr w.heap.size u x) (Q:w'.ownsRow w.heap.size 23 1 v' (vs.length+1) (vs++[u])) (M:(wr.alloc o).grownBy w' v.ownBlock):FL w w' v' (vs++[u]) (l++[x]):=by
 have O:za wr (wr.alloc o):=(za.refl _).alloc _;have h1:=h.more O;have G:∀{u':Value} {x':List Int},zQ wr w.heap.size u' x'->zQ w' w.heap.size u' x':=fun D=>(World.ownsRow.alloc D o).kept M (own_neT D h.own (by decide))
 refine ⟨zK h1.ext M h1.ext.size (fun k G=>(h1.own.lt k G).1),?_,by simp [h.len],fun j y E=>?_⟩
 ·show w'.ownsRow _ _ _ _ (vs++[u]).length _;rw [FG,zak];exact Q
 ·rcases zah j l.length with hjl | hjl
  ·rw [FD hjl] at E;obtain ⟨u',D,J⟩:=h.each j y E;exact ⟨u',by rw [FD (by rw [h.len];exact hjl)];exact D,G J⟩
  ·have I:j=l.length:=by
    rcases zah j (l++[x]).length with h1 | h1
    ·simp at h1;omega
    ·rw [zae h1] at E;cases E
   subst I;rw [FE (Fy _)] at E;have V:x=y:=by simpa using E
   subst V;exact ⟨u,by rw [<-h.len,FE (Fy _)];simp,G U⟩
theorem FL.intss {w:World} {l:List (List Int)} (h:FL w wr v vs l):zU wr (fun b=>w.heap.size<=b) v l:=
 ⟨vs,by rw [<-h.len];exact AS.of_own h.own,fun j x D=>by
  obtain ⟨u,G,E⟩:=h.each j x D;exact ⟨u,G,AS.of_own E⟩⟩
def Cm (m:MZ) (ch:List Int):List (List Int):=if zV m ch=true then zS m ch else []
def Di (w:World) (m:MZ) (ch:List Int) (e:Ending) (w':World):Prop:=
 ∃v,e=.returned (.tuple #[v,.bool (zV m ch)])/\za w w'/\zU w' (fun b=>w.heap.size<=b) v (Cm m ch)
theorem found_c {g:Nat} {s:RS} (w:World) (h:Bc w X Y g gr cap m s ptrs) (gd:zZ m) (hl:Lens m) (hc:zw m s.ch):
  Calls Tryz.prog 98 #[.pointer (some ⟨g,0,none⟩)] w (Di w m s.ch):=by
 obtain ⟨p,hp,b4,e3⟩:=h.row.last;have hn:=hc.len300 gd;have c9:=zh (last_c (w':=w) h hp (by omega));have d6:Hid (∀w2,za w w2->Calls Tryz.prog 147 #[.pointer (some ⟨g,0,none⟩)] w2 fun e w'=>e=.returned (.pointer (some ⟨p,0,none⟩))/\zT w2 w'):=fun w2 hE=>last_c (w':=w2) (h.ext hE) hp (by omega)
 have f4:w.cell? ⟨g,0,none⟩=some (.slice (some ⟨gr,0,none⟩) ptrs.length cap):=h.blk.cell (k:=0) rfl;have a0:ptrs.length=s.ch.length+1:=h.row.2.1;have e2:((ptrs.length:Int)==0)=false:=by rw [FM];omega
 have a4:=zh b4;have GD:=zh gd;have HL:=zh hl;have HC:=zh hc;obtain ⟨i0,hi,b7,b8,b9⟩:=info_parts Tryz.infoInts;have IF:=zh hi;have IZ0:=zh b7;have IZ1:=zh b8;have IZ2:=zh b9;clear hi b7 b8 b9;clear h gd hl hc a0 hp e3 b4 hn;obtain ⟨cb,a6⟩:=zaI (zV m s.ch);have E:=zh a6;clear a6
 go_enter Tryz.func98,Tryz.ntmps98
 go_wp2_with fail
 refine c9.out.mono ?_;rintro e w1 ⟨rfl,a7⟩;have a3:za w w1:=a7.below _;clear a7
 go_wp2_with fail
 refine (EA w1 (a4.out.ext a3) GD.out HL.out HC.out).mono ?_;rintro e w2 ⟨rfl,a8⟩;have Q:za w w2:=a3.trans (a8.below _);rw [<-E.out];clear a8 a3 e2
 cases cb with
 | false=>
  have D:Di w m s.ch (.returned (.tuple #[.slice none 0 0,.bool false])) w2:=⟨_,by rw [E.out],Q,by unfold Cm;rw [<-E.out];exact zU.nil _ _⟩;have G:=zh D;clear D
  go_wp2_with fail
  go_ret2
  exact G.out
 | true=>
  go_wp2_with fail
  refine (d6.out w2 Q).mono ?_;rintro e w3 ⟨rfl,a9⟩;have e7:za w w3:=Q.trans (a9.below _);clear a9 Q;obtain ⟨us,f,u,t,vc,vp,gu,_,O⟩:=a4.out;obtain ⟨_,_,_,_,_,_,_,r7,_⟩:=O.rules;have a1:=O.ps;clear O;have b2:Hid (∀p∈zS m s.ch,p.length<=1000):=(HC.out.sok GD.out HL.out).pp;have a0:(zS m s.ch).length<=6:=by have:=(HC.out.sok GD.out HL.out).pl;have:=GD.out.tk;omega
  obtain ⟨ps,M⟩:=zaI (zS m s.ch);rw [<-M] at a1 b2 a0;have d8:=zh M;clear M;have HP:=zh a1;obtain ⟨vs,⟨Ap,cp,rfl,f5,b3⟩,b0⟩:=a1;have d9:=zh b3;have c7:=zh b0;clear b3 b0;have H0:=zh (FL.nil w w3 e7)
  go_wp2_with fail
  go_loopg [4,29] ps.length (fun gk v vi wr=>∃(i:Nat) (vs:List Value),vi=.int .i64 i/\i<=ps.length/\gk=ps.length - i/\Hid (FL w wr v vs (ps.take i)))
  case atStart=>exact ⟨0,[],rfl,FN _,rfl,H0⟩
  clear H0
  case round=>
   obtain ⟨i,vl,rfl,hi,rfl,hF⟩:=hrel;have b6:=hF.out.ext;rcases zah i ps.length with J | hge
   ·obtain ⟨bp,op,up,rfl,_,I,b5⟩:=AW d9.out c7.out J J;have q0:=za.rule I;clear I;have b1:=b2.out _ (Fz J);have e0:=zh b5;clear b5
    obtain ⟨As,cs,rfl,f6⟩:∃A c,u4=.slice A vl.length c/\vl.length<=c:=by
     obtain ⟨A,c,e,hc,_⟩:=AS.of_own hF.out.own;exact ⟨A,c,e,hc⟩
    have a2:=hF.out.len;have d5:=zh b1;clear b1;have f2:=zh a2;have f1:vl.length<=6:=by rw [a2,za3];omega
    clear a2
    go_wp2_with fail
    refine (Ct _ (e0.out.below b6) (by have:=d5.out;omega)).mono ?_;rintro e w4 ⟨v4,rfl,hM⟩;have V:=zh (hF.out.more hM.ext);have d7:Hid (zQ w4 w.heap.size v4 ps[i]):=World.ownsRow.mono hM.own b6.size;obtain ⟨A4,c4,rfl,_⟩:=hM.slice;have f8:w.heap.size<=w4.heap.size:=V.out.ext.size;clear hM
    go_wp2_with (at_builtin;refine wpList_append_own_at _ rfl _ _ 22 rfl w.heap.size 23 i0 (.slice none 0 0) 1 24 Tryz.underlying22 IF.out IZ0.out IZ1.out IZ2.out rfl (by decide) (.slice As vl.length cs) vl.length _ rfl (V.out.own.alloc _) ⟨w4.heap.size,0,none⟩ 1 1 [.slice A4 ps[i].length c4] rfl rfl (cell_one_new _ _ _) (by simp [Value.oneCell']) (by unfold maxLen;omega) (by omega) (by simp;omega) ?_)
    intro v' w5 U hg _ e6;have e1:=zh (V.out.app d7.out U hg);clear U hg e6
    go_wp2_with fail
    go_roundg (ps.length - (i+1))
    case measure=>omega
    case rel=>exact ⟨i+1,_,by go_num,J,rfl,by rw [FF J];exact e1⟩
   ·have e5:i=ps.length:=by omega
    subst e5
    have D:Di w m s.ch (.returned (.tuple #[u4,.bool true])) wr:=by
     refine ⟨u4,by rw [E.out],hF.out.ext,?_⟩;unfold Cm;rw [<-E.out,if_pos rfl,<-d8.out];have:=hF.out.intss
     rwa [FJ] at this
    have G:=zh D;clear D
    go_wp2_with fail
    go_ret2
    exact G.out
end
section
open Go.RowKit
def drawV (l:List Int) (k:Nat) (n:Int):Int:=if h:k<l.length then l[k] % n else 0
def drawK (l:List Int) (k:Nat):Nat:=if k<l.length then k+1 else k
theorem draw_calls {ok:Nat->Prop} (gd k:Nat) (n:Int) (w:World) (Q:ze w gd 118 #[v,.int .i64 k]) (h:zg w ok v l) (hg:¬ ok gd) (hl:l.length<=9223372036854775807) (hk:k<=l.length) (hn:0<n) (a8:n<=1000000):
  Calls Tryz.prog 72 #[.pointer (some ⟨gd,0,none⟩),.int .i64 n] w fun e w'=>e=.returned (.int .i64 (drawV l k n))/\ze w' gd 118 #[v,.int .i64 (drawK l k)]/\w.grownBy w' (some gd):=by
 obtain ⟨A,c,rfl,hc,hr⟩:=h;have U:=Q.cell (k:=0) rfl;have V:=Q.cell (k:=1) rfl;have hx:=za.refl w;by_cases G:k<l.length
 ·obtain ⟨b,off,rfl,b0,D⟩:=Ai hr G G;have a5:b≠gd:=fun e=>hg (e ▸ b0)
  have hv:drawV l k n=l[k] % n:=by unfold drawV;rw [dif_pos G]
  have M:drawK l k=k+1:=by unfold drawK;rw [if_pos G]
  rw [hv,M];clear hv M hr;obtain ⟨x,a2⟩:=zaI (l[k]);rw [<-a2] at D⊢;clear a2;have hf:=Q.frozen 1;have HB:=zh Q;clear Q;have hd:decide ((l.length:Int)<=(k:Int))=false:=FC (by omega)
  go_enter Tryz.func72,Tryz.ntmps72
  go_wp2_with fail
  go_quiet (fail)
  generalize a0:w.drewN nq=w1;have a6:zT w w1:=⟨nq,a0.symm⟩;have J:za w w1:=a6.below _;have hh:w1.heap=w.heap:=by rw [<-a0];rfl
  clear a0 U V hf;have I:ze w1 gd 118 #[.slice (some ⟨b,off,none⟩) l.length c,.int .i64 k]:=HB.out.ext J;have U:=I.cell (k:=0) rfl;have V:=I.cell (k:=1) rfl;have hf:=I.frozen 1;have E:=J.cell D;have O:Hid (ze (w1.setCell ⟨gd,1,none⟩ (.int .i64 ((k:Int)+1))) gd 118 #[.slice (some ⟨b,off,none⟩) l.length c,.int .i64 ((k:Int)+1)]):=I.set (k:=1) _;have a3:(w1.setCell ⟨gd,1,none⟩ (.int .i64 ((k:Int)+1))).cell? ⟨b,off+k,none⟩=some (.int .i64 x):=(zaa (w:=w1) (FH w1 _ _ b a5)).trans E;have HG:Hid (w.grownBy (w1.setCell ⟨gd,1,none⟩ (.int .i64 ((k:Int)+1))) (some gd)):=⟨J.os,J.tape,J.output,by simp [hh],fun i hi a9=>by rw [FH w1 _ _ i (fun e=>a9 (by rw [e])),hh]⟩;have b2:=O.out.cell (k:=0) rfl;have b3:=O.out.cell (k:=1) rfl;clear I D;go_upto_region 4 with fail;generalize w1.setCell ⟨gd,1,none⟩ (.int .i64 ((k:Int)+1))=w2 at*;clear U V hf E;have b9:=za.refl w2;have b7:(k:Int)<(l.length:Int):=by omega
  go_quiet ((go_at_call 40;refine (mod_calls x n _ hn a8).mono ?_;rintro e w9 ⟨a7,rfl⟩;exact ⟨a7,⟨_,rfl⟩⟩))
  go_wp2;go_ret;refine ⟨rfl,O.out.ext ((za.refl w2).drewN _),?_⟩;have h:=HG.out;exact ⟨h.os,h.tape,h.output,h.size,h.block⟩
 ·have hv:drawV l k n=0:=by unfold drawV;rw [dif_neg G]
  have M:drawK l k=k:=by unfold drawK;rw [if_neg G]
  rw [hv,M];clear hv M hr;have HB:=zh Q;clear Q;have hd:decide ((l.length:Int)<=(k:Int))=true:=FB (by omega)
  go_enter Tryz.func72,Tryz.ntmps72
  go_wp2_with fail
  go_quiet (fail)
  go_wp2;go_ret;exact ⟨rfl,HB.out,⟨rfl,rfl,rfl,Fy _,fun _ _ _=>rfl⟩⟩
theorem Tryz.infoTask:(Tryz.prog.info? 87).map (fun i=>(i.zero,i.size,i.bytes))=some (some (.agg #[.string ⟨#[]⟩,.slice none 0 0,.slice none 0 0]),3,64):=by kernel_rfl
theorem Tryz.infoBools:(Tryz.prog.info? 29).map (fun i=>(i.zero,i.size,i.bytes))=some (some (.slice none 0 0),1,24):=by kernel_rfl
def AG (B:Nat) (w:World) (g:Nat):Prop:=B<=g/\∃(v:Value) (k:Nat) (l:List Int),ze w g 118 #[v,.int .i64 k]/\zg w (fun b=>b<B) v l/\l.length<=9223372036854775807/\k<=l.length
section
variable {B:Nat} {w w':World} {g:Nat}
theorem AG.keep (h:AG B w g) (E:Below B w w') (D:w'.heap[g]?=w.heap[g]?):AG B w' g:=by
 obtain ⟨h0,v,k,l,h1,h2,h3⟩:=h;exact ⟨h0,v,k,l,D.trans h1,h2.keep fun b D G=>E.block b D,h3⟩
theorem AG.ext (h:AG B w g) (D:za w w') (E:B<=w.heap.size):AG B w' g:=by
 obtain ⟨h0,v,k,l,h1,h2,h3⟩:=h;exact ⟨h0,v,k,l,(D.block g (zd h1)).trans h1,h2.below D,h3⟩
theorem AG.lt (h:AG B w g):g<w.heap.size:=by
 obtain ⟨h0,v,k,l,h1,h2,h3⟩:=h;exact zd h1
theorem AG.blk (h:AG B w g):∃cs,ze w g 118 cs:=by
 obtain ⟨h0,v,k,l,h1,h2,h3⟩:=h;exact ⟨_,h1⟩
theorem AU (n:Int) (h:AG B w g) (E:0<n) (G:n<=1000000):
  Calls Tryz.prog 72 #[.pointer (some ⟨g,0,none⟩),.int .i64 n] w fun e w'=>∃x,e=.returned (.int .i64 x)/\0<=x/\x<n/\AG B w' g/\w.grownBy w' (some g):=by
 obtain ⟨h0,v,k,l,h1,h2,h3,h4⟩:=h;refine (draw_calls g k n w h1 h2 (by omega) h3 h4 E G).mono ?_;rintro e w' ⟨rfl,I,J⟩;refine ⟨_,rfl,?_,?_,⟨h0,v,drawK l k,l,I,h2.keep fun b I D=>J.block b D (fun e=>by injection e with e;omega),h3,?_⟩,J⟩
 ·unfold drawV
  split
  ·exact Int.emod_nonneg _ (by omega)
  ·exact Int.le_refl _
 ·unfold drawV
  split
  ·exact Int.emod_lt_of_pos _ E
  ·exact E
 ·unfold drawK
  split <;> omega
end
theorem AK {w w':World} {B:Nat} {e:TypeId} {n:Nat} (h:w.ownsRow B e sz v n xs) (E:∀g,v.ownBlock=some g->w'.heap[g]?=w.heap[g]?):w'.ownsRow B e sz v n xs:=by
 obtain ⟨D,h0 | ⟨g,cap,cur,rfl,h1,h2,h3⟩⟩:=h
 ·exact ⟨D,.inl h0⟩
 ·exact ⟨D,.inr ⟨g,cap,cur,rfl,h1,(E g rfl).trans h2,h3⟩⟩
def Ck (w:World) (B:Nat) (v:Value) (l:List Bool):Prop:=w.ownsRow B 4 1 v l.length (l.map Value.bool)
theorem Ck.bools {w:World} {B:Nat} {l:List Bool} (h:Ck w B v l):AR w (fun b=>B<=b) v l:=AS.of_own h
def BoolD (w:World) (B S n:Nat) (u:Value):Prop:=∃l,Ck w B u l/\l.length=n/\∀g,u.ownBlock=some g->g<S
def TaskD (w:World) (B S n:Nat) (u1 u2:Value):Prop:=
 ∃l1 l2,zQ w B u1 l1/\zQ w B u2 l2/\(l1≠[]/\l2≠[])/\(l1.length<=2/\l2.length<=2)/\(∀x,x∈l1\/x∈l2->0<=x/\x<n)/\(∀g,u1.ownBlock=some g\/u2.ownBlock=some g->g<S)
section
variable {w w':World} {B S S' n:Nat} {u u1 u2:Value}
theorem BoolD.keep (h:BoolD w B S n u) (M:∀g cs,g<S->ze w g 4 cs->w'.heap[g]?=w.heap[g]?) (I:S<=S'):BoolD w' B S' n u:=by
 obtain ⟨l,h1,h2,h3⟩:=h;refine ⟨l,?_,h2,fun g J=>zam (h3 g J) I⟩;obtain ⟨E,h0 | ⟨g,cap,cur,rfl,h4,D,G⟩⟩:=h1
 ·exact ⟨E,.inl h0⟩
 ·exact ⟨E,.inr ⟨g,cap,cur,rfl,h4,(M g cur (h3 g rfl) D).trans D,G⟩⟩
theorem BV (h:zQ w B v l) (I:∀g cs,v.ownBlock=some g->ze w g 3 cs->w'.heap[g]?=w.heap[g]?):zQ w' B v l:=by
 obtain ⟨E,h0 | ⟨g,cap,cur,rfl,h4,D,G⟩⟩:=h
 ·exact ⟨E,.inl h0⟩
 ·exact ⟨E,.inr ⟨g,cap,cur,rfl,h4,(I g cur rfl D).trans D,G⟩⟩
theorem TaskD.keep (h:TaskD w B S n u1 u2) (I:∀g cs,g<S->ze w g 3 cs->w'.heap[g]?=w.heap[g]?) (M:S<=S'):TaskD w' B S' n u1 u2:=by
 obtain ⟨l1,l2,h1,h2,h3,h4,J,E⟩:=h;exact ⟨l1,l2,BV h1 (fun g cs D G=>I g cs (E g (.inl D)) G),BV h2 (fun g cs D G=>I g cs (E g (.inr D)) G),h3,h4,J,fun g D=>zam (E g D) M⟩
theorem BoolD.store (h:BoolD w B S n u) (p:Addr) (hp:p.spot=none) (b:Bool):BoolD (w.setCell p (.bool b)) B S n u:=by
 obtain ⟨l,h1,h2,h3⟩:=h;obtain ⟨pb,po,ps⟩:=p;obtain rfl:ps=none:=hp;obtain ⟨G,⟨rfl,h0⟩ | ⟨g,cap,cur,rfl,h4,I,J,M,O,Q⟩⟩:=h1
 ·exact ⟨l,⟨G,.inl ⟨rfl,h0⟩⟩,h2,h3⟩
 ·by_cases U:g=pb
  ·subst U;refine ⟨l.set po b,?_,by simpa using h2,h3⟩;have D:w.ownsRow B 4 1 (.slice (some ⟨g,0,none⟩) l.length cap) l.length (l.map Value.bool):=⟨G,.inr ⟨g,cap,cur,rfl,h4,I,J,M,O,Q⟩⟩;have E:=(D.stored po (.bool b)).1;unfold Ck;rw [List.length_set,List.map_set];exact E
  ·exact ⟨l,⟨G,.inr ⟨g,cap,cur,rfl,h4,(FH w ⟨pb,po,none⟩ _ g U).trans I,J,M,O,Q⟩⟩,h2,h3⟩
end
structure MS (B:Nat) (w:World) (S gm gd:Nat) (W H L:Int) (n tF tT:Nat) (vF vU vT:Value) (fs ts:List Value):Prop where
 hB:B<=w.heap.size
 hS:S<=w.heap.size
 mz:ze w gm 32 #[.int .i64 W,.int .i64 H,.int .i64 L,vF,vU,vT]
 gm0:B<=gm
 dr:AG B w gd
 F:w.ownsRow B 29 1 vF tF fs
 T:w.ownsRow B 87 3 vT tT ts
 fd:∀j,j<tF->∃u,fs[j]?=some u/\BoolD w B S n u
 td:∀j,j<tT->∃(s:NetS) (u1 u2:Value),ts[j*3]?=some (.string s)/\ts[j*3+1]?=some u1/\ts[j*3+2]?=some u2/\TaskD w B S n u1 u2
section
variable {B:Nat} {w w':World} {S S' gm gd:Nat} {W H L:Int} {n tF tT:Nat} {vF vU vU' vT:Value} {fs ts:List Value}
theorem MS.keep (h:MS B w S gm gd W H L n tF tT vF vU vT fs ts) (U:w.heap.size<=w'.heap.size) (hm:w'.heap[gm]?=w.heap[gm]?) (hd:AG B w' gd)
  (hk:∀g ty cs,g<w.heap.size->ze w g ty cs->ty=29\/ty=87->g∉([]:List Nat)->w'.heap[g]?=w.heap[g]?) (E:∀g ty cs,g<S->ze w g ty cs->ty=4\/ty=3->w'.heap[g]?=w.heap[g]?) (V:S<=S') (J:S'<=w'.heap.size):
  MS B w' S' gm gd W H L n tF tT vF vU vT fs ts:=by
 refine ⟨FA h.hB U,J,hm.trans h.mz,h.gm0,hd,?_,?_,fun j Q=>?_,fun j Q=>?_⟩
 ·obtain ⟨G,h0 | ⟨g,cap,cur,rfl,h4,D,I⟩⟩:=h.F
  ·exact ⟨G,.inl h0⟩
  ·exact ⟨G,.inr ⟨g,cap,cur,rfl,h4,(hk g _ cur (zd D) D (.inl rfl) (by simp)).trans D,I⟩⟩
 ·obtain ⟨G,h0 | ⟨g,cap,cur,rfl,h4,D,I⟩⟩:=h.T
  ·exact ⟨G,.inl h0⟩
  ·exact ⟨G,.inr ⟨g,cap,cur,rfl,h4,(hk g _ cur (zd D) D (.inr rfl) (by simp)).trans D,I⟩⟩
 ·obtain ⟨u,h1,h2⟩:=h.fd j Q;exact ⟨u,h1,h2.keep (fun g cs O M=>E g _ cs O M (.inl rfl)) V⟩
 ·obtain ⟨s,u1,u2,h1,h2,h3,h4⟩:=h.td j Q;exact ⟨s,u1,u2,h1,h2,h3,h4.keep (fun g cs O M=>E g _ cs O M (.inr rfl)) V⟩
theorem MS.ext (h:MS B w S gm gd W H L n tF tT vF vU vT fs ts) (D:za w w'):MS B w' w'.heap.size gm gd W H L n tF tT vF vU vT fs ts:=
 h.keep D.size (D.block gm (zd h.mz)) (h.dr.ext D h.hB) (fun g _ _ E _ _ _=>D.block g E) (fun g _ _ E _ _=>D.block g (zam E h.hS)) (FA h.hS D.size) (Fy _)
theorem MS.extS (h:MS B w S gm gd W H L n tF tT vF vU vT fs ts) (D:za w w'):MS B w' S gm gd W H L n tF tT vF vU vT fs ts:=
 h.keep D.size (D.block gm (zd h.mz)) (h.dr.ext D h.hB) (fun g _ _ E _ _ _=>D.block g E) (fun g _ _ E _ _=>D.block g (zam E h.hS)) (Fy _) (FA h.hS D.size)
theorem MS.drawn (h:MS B w S gm gd W H L n tF tT vF vU vT fs ts) (M:AG B w' gd) (G:w.grownBy w' (some gd)):MS B w' S gm gd W H L n tF tT vF vU vT fs ts:=by
 obtain ⟨cs,J⟩:=h.dr.blk
 have E:∀g ty cs',ze w g ty cs'->ty≠118->w'.heap[g]?=w.heap[g]?:=fun g ty cs' D I=>G.block g (zd D) (fun e=>by
  injection e with e;exact ze.ne_ D J I e)
 refine h.keep G.size (E gm _ _ h.mz (by decide)) M (fun g ty cs' _ D ht _=>E g ty cs' D (by rcases ht with rfl | rfl <;> decide)) (fun g ty cs' _ D ht=>E g ty cs' D (by rcases ht with rfl | rfl <;> decide)) (Fy _) (FA h.hS G.size)
theorem MS.store (h:MS B w S gm gd W H L n tF tT vF vU vT fs ts) {g k:Nat} {cs:Array Value} (V:ze w g 4 cs) (a0:B<=g) (b:Bool):MS B (w.setCell ⟨g,k,none⟩ (.bool b)) S gm gd W H L n tF tT vF vU vT fs ts:=by
 have G:∀g' ty cs',ze w g' ty cs'->ty≠4->(w.setCell ⟨g,k,none⟩ (.bool b)).heap[g']?=w.heap[g']?:=fun g' ty cs' D O=>FH w ⟨g,k,none⟩ _ g' (ze.ne_ D V O)
 have I:(w.setCell ⟨g,k,none⟩ (.bool b)).heap.size=w.heap.size:=by simp [World.setCell]
 refine ⟨by rw [I];exact h.hB,by rw [I];exact h.hS,(G gm _ _ h.mz (by decide)).trans h.mz,h.gm0,?_,?_,?_,fun j M=>?_,fun j M=>?_⟩
 ·obtain ⟨cs',D⟩:=h.dr.blk;obtain ⟨h0,v,k',l,h1,h2,h3⟩:=h.dr;refine ⟨h0,v,k',l,(G gd _ _ D (by decide)).trans h1,?_,h3⟩
  exact h2.keep fun b' Q a2=>FH w ⟨g,k,none⟩ _ b' (by
   show b'≠g;omega)
 ·exact AK h.F fun g' E=>by
   obtain ⟨hl,⟨rfl,_⟩ | ⟨g2,cap,cur,rfl,h4,J,U⟩⟩:=h.F
   ·cases E
   ·have:g2=g':=by simpa [Value.ownBlock] using E
    subst this;exact G g2 _ _ J (by decide)
 ·exact AK h.T fun g' E=>by
   obtain ⟨hl,⟨rfl,_⟩ | ⟨g2,cap,cur,rfl,h4,J,U⟩⟩:=h.T
   ·cases E
   ·have:g2=g':=by simpa [Value.ownBlock] using E
    subst this;exact G g2 _ _ J (by decide)
 ·obtain ⟨u,h1,h2⟩:=h.fd j M;exact ⟨u,h1,h2.store _ rfl b⟩
 ·obtain ⟨s,u1,u2,h1,h2,h3,h4⟩:=h.td j M;exact ⟨s,u1,u2,h1,h2,h3,h4.keep (fun g' cs' _ D=>G g' _ cs' D (by decide)) (Fy _)⟩
theorem MS.addT (h:MS B w S gm gd W H L n tF tT vF vU vT fs ts) {s:NetS} {u1 u2:Value} (hd:TaskD w B S n u1 u2) (ho:w5.ownsRow B 87 3 vT' (tT+1) (ts++[.string s,u1,u2])) (V:(w.alloc o).grownBy w5 vT.ownBlock):
  MS B (w5.setCell ⟨gm,5,none⟩ vT') S gm gd W H L n tF (tT+1) vF vU vT' fs (ts++[.string s,u1,u2])/\
   (∀g ty cs,ze w g ty cs->ty≠87->ty≠32->(w5.setCell ⟨gm,5,none⟩ vT').heap[g]?=w.heap[g]?)/\Below B w (w5.setCell ⟨gm,5,none⟩ vT'):=by
 have h1:∀g ty cs,ze w g ty cs->ty≠87->w5.heap[g]?=w.heap[g]?:=fun g ty cs E I=>(V.block g (by have:=zd E;simp;omega) (fun e=>zn h.T E (Ne.symm I) e.symm)).trans (zad _ _ _ (zd E))
 have M:ze w5 gm 32 #[.int .i64 W,.int .i64 H,.int .i64 L,vF,vU,vT]:=(h1 gm _ _ h.mz (by decide)).trans h.mz;have h2:∀g ty cs,ze w g ty cs->ty≠87->ty≠32->(w5.setCell ⟨gm,5,none⟩ vT').heap[g]?=w.heap[g]?:=fun g ty cs E I Q=>(FH w5 ⟨gm,5,none⟩ _ g (ze.ne_ E h.mz Q)).trans (h1 g ty cs E I)
 have O:w.heap.size<=(w5.setCell ⟨gm,5,none⟩ vT').heap.size:=by have:=V.size;simp [World.setCell] at this⊢;omega
 have G:Below B w (w5.setCell ⟨gm,5,none⟩ vT'):=by
  have h3:Below B w (w.alloc o):=(Below.refl B w).alloc h.hB _;have h4:Below B w w5:=h3.grown V (by simp;have:=h.hB;omega) (fun k hk=>(h.T.lt k hk).1);exact h4.setCell (p:=⟨gm,5,none⟩) h.gm0 _
 refine ⟨⟨FA h.hB O,FA h.hS O,M.set (k:=5) vT',h.gm0,?_,?_,?_,fun j hj=>?_,fun j hj=>?_⟩,h2,G⟩
 ·obtain ⟨cs,E⟩:=h.dr.blk;exact h.dr.keep G (h2 gd _ _ E (by decide) (by decide))
 ·exact AK h.F fun g D=>by
   obtain ⟨hl,⟨e,_⟩ | ⟨g2,cap,cur,e,h4,U,h6⟩⟩:=h.F
   ·rw [e] at D;cases D
   ·rw [e] at D;have:g2=g:=by simpa [Value.ownBlock] using D
    subst this;exact h2 g2 _ _ U (by decide) (by decide)
 ·exact AK ho fun g D=>FH w5 ⟨gm,5,none⟩ _ g (fun e=>by
   have e':g=gm:=e;subst e';exact zn ho M (by decide) D)
 ·obtain ⟨u,h3,h4⟩:=h.fd j hj;exact ⟨u,h3,h4.keep (fun g cs _ E=>h2 g _ cs E (by decide) (by decide)) (Fy _)⟩
 ·have a3:ts.length=tT*3:=h.T.1;have J:∀{a b:Value},TaskD w B S n a b->TaskD (w5.setCell ⟨gm,5,none⟩ vT') B S n a b:=fun hh=>hh.keep (fun g cs _ E=>h2 g _ cs E (by decide) (by decide)) (Fy _)
  rcases zah j tT with hj2 | hj2
  ·obtain ⟨s',a,b,h3,h4,U,h6⟩:=h.td j hj2;exact ⟨s',a,b,by rw [FD (by omega)];exact h3,by rw [FD (by omega)];exact h4,by rw [FD (by omega)];exact U,J h6⟩
  ·have a0:j=tT:=by omega
   subst a0;refine ⟨s,u1,u2,?_,?_,?_,J hd⟩
   ·rw [FE (by omega),show j*3 - ts.length=0 from by omega];rfl
   ·rw [FE (by omega),show j*3+1 - ts.length=1 from by omega];rfl
   ·rw [FE (by omega),show j*3+2 - ts.length=2 from by omega];rfl
theorem MS.addF (h:MS B w S gm gd W H L n tF tT vF vU vT fs ts) {u:Value} (hd:BoolD w B S n u) (ho:w5.ownsRow B 29 1 vF' (tF+1) (fs++[u])) (V:(w.alloc o).grownBy w5 vF.ownBlock):
  MS B (w5.setCell ⟨gm,3,none⟩ vF') S gm gd W H L n (tF+1) tT vF' vU vT (fs++[u]) ts/\Below B w (w5.setCell ⟨gm,3,none⟩ vF'):=by
 have h1:∀g ty cs,ze w g ty cs->ty≠29->w5.heap[g]?=w.heap[g]?:=fun g ty cs E I=>(V.block g (by have:=zd E;simp;omega) (fun e=>zn h.F E (Ne.symm I) e.symm)).trans (zad _ _ _ (zd E))
 have M:ze w5 gm 32 #[.int .i64 W,.int .i64 H,.int .i64 L,vF,vU,vT]:=(h1 gm _ _ h.mz (by decide)).trans h.mz;have h2:∀g ty cs,ze w g ty cs->ty≠29->ty≠32->(w5.setCell ⟨gm,3,none⟩ vF').heap[g]?=w.heap[g]?:=fun g ty cs E I Q=>(FH w5 ⟨gm,3,none⟩ _ g (ze.ne_ E h.mz Q)).trans (h1 g ty cs E I)
 have O:w.heap.size<=(w5.setCell ⟨gm,3,none⟩ vF').heap.size:=by have:=V.size;simp [World.setCell] at this⊢;omega
 have G:Below B w (w5.setCell ⟨gm,3,none⟩ vF'):=by
  have h3:Below B w (w.alloc o):=(Below.refl B w).alloc h.hB _;have h4:Below B w w5:=h3.grown V (by simp;have:=h.hB;omega) (fun k hk=>(h.F.lt k hk).1);exact h4.setCell (p:=⟨gm,3,none⟩) h.gm0 _
 refine ⟨⟨FA h.hB O,FA h.hS O,M.set (k:=3) vF',h.gm0,?_,?_,?_,fun j hj=>?_,fun j hj=>?_⟩,G⟩
 ·obtain ⟨cs,E⟩:=h.dr.blk;exact h.dr.keep G (h2 gd _ _ E (by decide) (by decide))
 ·exact AK ho fun g D=>FH w5 ⟨gm,3,none⟩ _ g (fun e=>by
   have e':g=gm:=e;subst e';exact zn ho M (by decide) D)
 ·exact AK h.T fun g D=>by
   obtain ⟨hl,⟨e,_⟩ | ⟨g2,cap,cur,e,h4,U,h6⟩⟩:=h.T
   ·rw [e] at D;cases D
   ·rw [e] at D;have:g2=g:=by simpa [Value.ownBlock] using D
    subst this;exact h2 g2 _ _ U (by decide) (by decide)
 ·have a3:fs.length=tF:=by have:=h.F.1;omega
  have J:∀{a:Value},BoolD w B S n a->BoolD (w5.setCell ⟨gm,3,none⟩ vF') B S n a:=fun hh=>hh.keep (fun g cs _ E=>h2 g _ cs E (by decide) (by decide)) (Fy _)
  rcases zah j tF with hj2 | hj2
  ·obtain ⟨a,h3,h4⟩:=h.fd j hj2;exact ⟨a,by rw [FD (by omega)];exact h3,J h4⟩
  ·have a0:j=tF:=by omega
   subst a0;exact ⟨u,by rw [FE (by omega),show j - fs.length=0 from by omega];rfl,J hd⟩
 ·obtain ⟨s,u1,u2,h3,h4,U,h6⟩:=h.td j hj;exact ⟨s,u1,u2,h3,h4,U,h6.keep (fun g cs _ E=>h2 g _ cs E (by decide) (by decide)) (Fy _)⟩
theorem MS.addU (h:MS B w S gm gd W H L n tF tT vF vU vT fs ts) {us:List Bool} (a6:B<=S) (hu:Ck w S vU us) (ho:w5.ownsRow S 4 1 vU' (us.length+1) (us.map Value.bool++[.bool x])) (V:(w.alloc o).grownBy w5 vU.ownBlock):
  MS B (w5.setCell ⟨gm,4,none⟩ vU') S gm gd W H L n tF tT vF vU' vT fs ts/\Ck (w5.setCell ⟨gm,4,none⟩ vU') S vU' (us++[x])/\Below B w (w5.setCell ⟨gm,4,none⟩ vU'):=by
 have h1:∀g ty cs,ze w g ty cs->ty≠4\/g<S->w5.heap[g]?=w.heap[g]?:=fun g ty cs E hty=>(V.block g (by have:=zd E;simp;omega) (fun e=>by
  rcases hty with hty | hty
  ·exact zn hu E (Ne.symm hty) e.symm
  ·have:=(World.ownsRow.lt hu g e.symm).1;omega)).trans (zad _ _ _ (zd E))
 have J:ze w5 gm 32 #[.int .i64 W,.int .i64 H,.int .i64 L,vF,vU,vT]:=(h1 gm _ _ h.mz (.inl (by decide))).trans h.mz;have h2:∀g ty cs,ze w g ty cs->ty≠4\/g<S->ty≠32->(w5.setCell ⟨gm,4,none⟩ vU').heap[g]?=w.heap[g]?:=fun g ty cs E hty O=>(FH w5 ⟨gm,4,none⟩ _ g (ze.ne_ E h.mz O)).trans (h1 g ty cs E hty)
 have M:w.heap.size<=(w5.setCell ⟨gm,4,none⟩ vU').heap.size:=by have:=V.size;simp [World.setCell] at this⊢;omega
 have G:Below B w (w5.setCell ⟨gm,4,none⟩ vU'):=by
  have h3:Below B w (w.alloc o):=(Below.refl B w).alloc h.hB _;have h4:Below B w w5:=h3.grown V (by simp;have:=h.hB;omega) (fun k hk=>by have:=(World.ownsRow.lt hu k hk).1;omega);exact h4.setCell (p:=⟨gm,4,none⟩) h.gm0 _
 have I:∀{e:TypeId} {sz k:Nat} {v:Value} {xs:List Value},w.ownsRow B e sz v k xs->e≠4->e≠32->(w5.setCell ⟨gm,4,none⟩ vU').ownsRow B e sz v k xs:=fun hr he U=>AK hr fun g D=>by
  obtain ⟨hl,⟨e,_⟩ | ⟨g2,cap,cur,e,h4,Q,h6⟩⟩:=hr
  ·rw [e] at D;cases D
  ·rw [e] at D;have:g2=g:=by simpa [Value.ownBlock] using D
   subst this;exact h2 g2 _ _ Q (.inl he) U
 refine ⟨⟨FA h.hB M,FA h.hS M,J.set (k:=4) vU',h.gm0,?_,I h.F (by decide) (by decide),I h.T (by decide) (by decide),fun j hj=>?_,fun j hj=>?_⟩,?_,G⟩
 ·obtain ⟨cs,E⟩:=h.dr.blk;exact h.dr.keep G (h2 gd _ _ E (.inl (by decide)) (by decide))
 ·obtain ⟨u,h3,h4⟩:=h.fd j hj;exact ⟨u,h3,h4.keep (fun g cs a0 E=>h2 g _ cs E (.inr a0) (by decide)) (Fy _)⟩
 ·obtain ⟨s,u1,u2,h3,h4,Q,h6⟩:=h.td j hj;exact ⟨s,u1,u2,h3,h4,Q,h6.keep (fun g cs _ E=>h2 g _ cs E (.inl (by decide)) (by decide)) (Fy _)⟩
 ·unfold Ck;rw [FG,zak,za2]
  exact AK ho fun g D=>FH w5 ⟨gm,4,none⟩ _ g (fun e=>by
   have e':g=gm:=e;subst e';exact zn ho J (by decide) D)
end
structure R1 (B:Nat) (w:World) (S ge gt n:Nat) (s:NetS) (u1 u2:Value) (l1 l2:List Int):Prop where
 hB:B<=S
 hS:S<=w.heap.size
 dr:AG B w ge
 hge:S<=ge
 tk:ze w gt 87 #[.string s,u1,u2]
 hgt:S<=gt
 o1:zQ w S u1 l1
 o2:zQ w S u2 l2
 ne:u1.ownBlock=none\/u1.ownBlock≠u2.ownBlock
 e1:l1≠[]
 e2:l2≠[]
 rg:∀x,x∈l1\/x∈l2->0<=x/\x<(n:Int)
section
variable {B:Nat} {w w':World} {S ge gt n:Nat} {s:NetS} {u1 u2:Value} {l1 l2:List Int}
theorem R1.keep (h:R1 B w S ge gt n s u1 u2 l1 l2) (G:Below B w w') (E:∀g ty cs,ze w g ty cs->ty=118\/ty=87\/ty=3->w'.heap[g]?=w.heap[g]?):R1 B w' S ge gt n s u1 u2 l1 l2:=by
 obtain ⟨cs,D⟩:=h.dr.blk;exact ⟨h.hB,FA h.hS G.size,h.dr.keep G (E ge _ _ D (.inl rfl)),h.hge,(E gt _ _ h.tk (.inr (.inl rfl))).trans h.tk,h.hgt,BV h.o1 (fun g cs _ D=>E g _ cs D (.inr (.inr rfl))),BV h.o2 (fun g cs _ D=>E g _ cs D (.inr (.inr rfl))),h.ne,h.e1,h.e2,h.rg⟩
theorem R1.ext (h:R1 B w S ge gt n s u1 u2 l1 l2) (D:za w w'):R1 B w' S ge gt n s u1 u2 l1 l2:=
 h.keep (D.mono (FA h.hB h.hS)) (fun g _ _ E _=>D.block g (zd E))
theorem R1.drawn (h:R1 B w S ge gt n s u1 u2 l1 l2) (M:AG B w' ge) (J:w.grownBy w' (some ge)):R1 B w' S ge gt n s u1 u2 l1 l2:=by
 obtain ⟨cs,E⟩:=h.dr.blk
 have D:∀g ty cs',ze w g ty cs'->ty≠118->w'.heap[g]?=w.heap[g]?:=fun g ty cs' G I=>J.block g (zd G) (fun e=>by
  injection e with e;exact ze.ne_ G E I e)
 exact ⟨h.hB,FA h.hS J.size,M,h.hge,(D gt _ _ h.tk (by decide)).trans h.tk,h.hgt,BV h.o1 (fun g cs _ E=>D g _ cs E (by decide)),BV h.o2 (fun g cs _ E=>D g _ cs E (by decide)),h.ne,h.e1,h.e2,h.rg⟩
theorem R1.drawnExt {wR:World} (h:R1 B w wR.heap.size ge gt n s u1 u2 l1 l2) (D:za wR w) (G:w.grownBy w' (some ge)):za wR w':=
 Below.grown D G D.size (fun k E=>by injection E with E;have:=h.hge;omega)
theorem R1.add1 (h:R1 B w S ge gt n s u1 u2 l1 l2) {u1':Value} {x:Int} (hx:0<=x/\x<(n:Int)) (Q:w5.ownsRow S 3 1 u1' (l1.length+1) (l1.map (Value.int .i64)++[.int .i64 x])) (O:(w.alloc o).grownBy w5 u1.ownBlock)
  (hv:u1'.ownBlock=u1.ownBlock\/u1'.ownBlock=some (w.heap.size+1)):R1 B (w5.setCell ⟨gt,1,none⟩ u1') S ge gt n s u1' u2 (l1++[x]) l2/\Below S w (w5.setCell ⟨gt,1,none⟩ u1'):=by
 obtain ⟨cs,D⟩:=h.dr.blk;have h1:∀g ty cs,ze w g ty cs->u1.ownBlock≠some g->w5.heap[g]?=w.heap[g]?:=fun g ty cs D I=>(O.block g (by have:=zd D;simp;omega) (fun e=>I e.symm)).trans (zad _ _ _ (zd D))
 have J:ze w5 gt 87 #[.string s,u1,u2]:=(h1 gt _ _ h.tk (zn h.o1 h.tk (by decide))).trans h.tk;have h2:∀g ty cs,ze w g ty cs->u1.ownBlock≠some g->ty≠87->(w5.setCell ⟨gt,1,none⟩ u1').heap[g]?=w.heap[g]?:=fun g ty cs D I V=>(FH w5 ⟨gt,1,none⟩ _ g (ze.ne_ D h.tk V)).trans (h1 g ty cs D I)
 have U:w.heap.size<=(w5.setCell ⟨gt,1,none⟩ u1').heap.size:=by have:=O.size;simp [World.setCell] at this⊢;omega
 have E:Below S w (w5.setCell ⟨gt,1,none⟩ u1'):=by
  have h3:Below S w (w.alloc o):=(Below.refl S w).alloc h.hS _;have h4:Below S w w5:=h3.grown O (by simp;have:=h.hS;omega) (fun k hk=>(World.ownsRow.lt h.o1 k hk).1);exact h4.setCell (p:=⟨gt,1,none⟩) h.hgt _
 refine ⟨⟨h.hB,FA h.hS U,h.dr.keep (E.mono h.hB) (h2 ge _ _ D (zn h.o1 D (by decide)) (by decide)),h.hge,J.set (k:=1) u1',h.hgt,?_,?_,?_,by simp,h.e2,?_⟩,E⟩
 ·show World.ownsRow _ _ _ _ _ (l1++[x]).length _;rw [FG,zak,za2]
  exact AK Q fun g G=>FH w5 ⟨gt,1,none⟩ _ g (fun e=>by
   have e':g=gt:=e;subst e';exact zn Q J (by decide) G)
 ·exact BV h.o2 (fun g cs G M=>h2 g _ cs M (fun e=>by
   rcases h.ne with hn | hn
   ·rw [hn] at e;cases e
   ·exact hn (e.trans G.symm)) (by decide))
 ·right
  rcases hv with hv | hv
  ·rw [hv];rcases h.ne with hn | hn
   ·rw [hn] at hv;obtain ⟨g,c,e,_,_⟩:=World.ownsRow.form Q (by omega);rw [e] at hv;cases hv
   ·exact hn
  ·rw [hv];intro e;have:=(World.ownsRow.lt h.o2 _ e.symm).2;omega
 ·intro y hy;rcases hy with hy | hy
  ·rcases za0.1 hy with hy | hy
   ·exact h.rg y (.inl hy)
   ·rw [zar] at hy;rw [hy];exact hx
  ·exact h.rg y (.inr hy)
theorem R1.add2 (h:R1 B w S ge gt n s u1 u2 l1 l2) {u2':Value} {x:Int} (hx:0<=x/\x<(n:Int)) (V:w5.ownsRow S 3 1 u2' (l2.length+1) (l2.map (Value.int .i64)++[.int .i64 x])) (O:(w.alloc o).grownBy w5 u2.ownBlock)
  (hv:u2'.ownBlock=u2.ownBlock\/u2'.ownBlock=some (w.heap.size+1)):R1 B (w5.setCell ⟨gt,2,none⟩ u2') S ge gt n s u1 u2' l1 (l2++[x])/\Below S w (w5.setCell ⟨gt,2,none⟩ u2'):=by
 obtain ⟨cs,E⟩:=h.dr.blk;have h1:∀g ty cs,ze w g ty cs->u2.ownBlock≠some g->w5.heap[g]?=w.heap[g]?:=fun g ty cs E I=>(O.block g (by have:=zd E;simp;omega) (fun e=>I e.symm)).trans (zad _ _ _ (zd E))
 have J:ze w5 gt 87 #[.string s,u1,u2]:=(h1 gt _ _ h.tk (zn h.o2 h.tk (by decide))).trans h.tk;have h2:∀g ty cs,ze w g ty cs->u2.ownBlock≠some g->ty≠87->(w5.setCell ⟨gt,2,none⟩ u2').heap[g]?=w.heap[g]?:=fun g ty cs E I U=>(FH w5 ⟨gt,2,none⟩ _ g (ze.ne_ E h.tk U)).trans (h1 g ty cs E I)
 have Q:w.heap.size<=(w5.setCell ⟨gt,2,none⟩ u2').heap.size:=by have:=O.size;simp [World.setCell] at this⊢;omega
 have G:Below S w (w5.setCell ⟨gt,2,none⟩ u2'):=by
  have h3:Below S w (w.alloc o):=(Below.refl S w).alloc h.hS _;have h4:Below S w w5:=h3.grown O (by simp;have:=h.hS;omega) (fun k hk=>(World.ownsRow.lt h.o2 k hk).1);exact h4.setCell (p:=⟨gt,2,none⟩) h.hgt _
 refine ⟨⟨h.hB,FA h.hS Q,h.dr.keep (G.mono h.hB) (h2 ge _ _ E (zn h.o2 E (by decide)) (by decide)),h.hge,J.set (k:=2) u2',h.hgt,?_,?_,?_,h.e1,by simp,?_⟩,G⟩
 ·exact BV h.o1 (fun g cs D M=>h2 g _ cs M (fun e=>by
   rcases h.ne with hn | hn
   ·rw [hn] at D;cases D
   ·exact hn (D.trans e.symm)) (by decide))
 ·show World.ownsRow _ _ _ _ _ (l2++[x]).length _;rw [FG,zak,za2]
  exact AK V fun g D=>FH w5 ⟨gt,2,none⟩ _ g (fun e=>by
   have e':g=gt:=e;subst e';exact zn V J (by decide) D)
 ·rcases hv with hv | hv
  ·rw [hv];exact h.ne
  ·by_cases h0:u1.ownBlock=none
   ·exact .inl h0
   ·right
    rw [hv];intro e;have:=(World.ownsRow.lt h.o1 _ e).2;omega
 ·intro y hy;rcases hy with hy | hy
  ·exact h.rg y (.inl hy)
  ·rcases za0.1 hy with hy | hy
   ·exact h.rg y (.inr hy)
   ·rw [zar] at hy;rw [hy];exact hx
theorem R1.taskD (h:R1 B w S ge gt n s u1 u2 l1 l2) (k1:l1.length<=2) (k2:l2.length<=2):TaskD w B w.heap.size n u1 u2:=
 ⟨l1,l2,World.ownsRow.mono h.o1 h.hB,World.ownsRow.mono h.o2 h.hB,⟨h.e1,h.e2⟩,⟨k1,k2⟩,h.rg,fun g hg=>by
  rcases hg with hg | hg
  ·exact (World.ownsRow.lt h.o1 g hg).2
  ·exact (World.ownsRow.lt h.o2 g hg).2⟩
end
theorem Ck.app {S:Nat} {l:List Bool} (D:w5.ownsRow S 4 1 v' (l.length+1) (l.map Value.bool++[.bool x])):Ck w5 S v' (l++[x]):=by
 unfold Ck;rw [FG,zak,za2];exact D
theorem R1.grownB {B:Nat} {w:World} {S S2 ge gt n:Nat} {s:NetS} {u1 u2:Value} {l1 l2:List Int} {l:List Bool} (h:R1 B w S ge gt n s u1 u2 l1 l2) (J:Ck w S2 v l) (M:S<=S2) (I:(w.alloc o).grownBy w5 v.ownBlock):R1 B w5 S ge gt n s u1 u2 l1 l2/\Below S w w5:=by
 have D:Below S w w5:=by
  have h3:Below S w (w.alloc o):=(Below.refl S w).alloc h.hS _;exact h3.grown I (by simp;have:=h.hS;omega) (fun k O=>FA M (World.ownsRow.lt J k O).1)
 refine ⟨h.keep (D.mono h.hB) fun g ty cs E G=>?_,D⟩;exact (I.block g (by have:=zd E;simp;omega) (fun e=>zn J E (by rcases G with rfl | rfl | rfl <;> decide) e.symm)).trans (zad _ _ _ (zd E))
theorem cells3n (w:World) (a b c:Value) (t:TypeId):∀j u,[a,b,c][j]?=some u->(w.alloc (.cells #[a,b,c] t)).cell? ((⟨w.heap.size,0,none⟩:Addr).add j)=some u:=by
 intro j u D;have E:ze (w.alloc (.cells #[a,b,c] t)) w.heap.size t #[a,b,c]:=ze.new _ _ _ rfl
 match j,D with
 | 0,D=>exact E.cell (k:=0) D
 | 1,D=>exact E.cell (k:=1) D
 | 2,D=>exact E.cell (k:=2) D
section
variable {B:Nat} {w:World} {S S2 gm gd ge gt:Nat} {W H L:Int} {n t:Nat} {vF vU vT vf:Value} {fs ts:List Value} {s:NetS} {u1 u2:Value} {l1 l2:List Int} {lf:List Bool}
theorem MS.end1 (h:MS B w w.heap.size gm gd W H L n t t vF vU vT fs ts) (M:R1 B w S ge gt n s u1 u2 l1 l2) (k1:l1.length<=2) (k2:l2.length<=2) (E:Ck w S2 vf lf) (J:w9.ownsRow B 87 3 vT' (t+1) (ts++[.string s,u1,u2])) (I:(w.alloc o).grownBy w9 vT.ownBlock):
  MS B (w9.setCell ⟨gm,5,none⟩ vT') w.heap.size gm gd W H L n t (t+1) vF vU vT' fs (ts++[.string s,u1,u2])/\Ck (w9.setCell ⟨gm,5,none⟩ vT') S2 vf lf/\Below B w (w9.setCell ⟨gm,5,none⟩ vT'):=by
 obtain ⟨h1,h2,h3⟩:=h.addT (M.taskD k1 k2) J I;refine ⟨h1,AK E fun g D=>?_,h3⟩;obtain ⟨Q,⟨e,_⟩ | ⟨g2,cap,cur,e,h4,G,O⟩⟩:=E
 ·rw [e] at D;cases D
 ·rw [e] at D;have:g2=g:=by simpa [Value.ownBlock] using D
  subst this;exact h2 g2 _ _ G (by decide) (by decide)
theorem MS.end2 (h:MS B w S gm gd W H L n t (t+1) vF vU vT fs ts) (I:Ck w S2 vf lf) (D:lf.length=n) (E:B<=S2) (G:∀g,vf.ownBlock=some g->g<S) (M:w9.ownsRow B 29 1 vF' (t+1) (fs++[vf])) (J:(w.alloc o).grownBy w9 vF.ownBlock):
  MS B (w9.setCell ⟨gm,3,none⟩ vF') (w9.setCell ⟨gm,3,none⟩ vF').heap.size gm gd W H L n (t+1) (t+1) vF' vU vT (fs++[vf]) ts/\Below B w (w9.setCell ⟨gm,3,none⟩ vF'):=by
 obtain ⟨h1,h2⟩:=h.addF ⟨lf,World.ownsRow.mono I E,D,G⟩ M J;exact ⟨h1.ext (za.refl _),h2⟩
theorem MS.c5 (h:MS B w S gm gd W H L n t (t+1) vF vU vT fs ts):w.cell? ⟨gm,3,none⟩=some vF:=h.mz.cell (k:=3) rfl
end
theorem hasB {w:World} {B:Nat} {u:Value} (k:Int) (o:zQ w B u l) (E:l.length<=1000):∃b,∀W,za w W->Calls Tryz.prog 73 #[u,.int .i64 k] W fun e w'=>e=.returned (.bool b)/\W=w':=
 ⟨_,fun W D=>AO k W (zg.below (AS.of_own o) D) (by omega)⟩
theorem Es {w:World} {B n g c:Nat} {e:TypeId} (h:w.ownsRow B e sz (.slice (some ⟨g,0,none⟩) n c) n xs):∃cs,ze w g e cs:=by
 obtain ⟨_,⟨e,_⟩ | ⟨g2,cap,cur,e,_,D,_⟩⟩:=h
 ·cases e
 ·injection e with e _ _;injection e with e;injection e with e;subst e;exact ⟨cur,D⟩
theorem MS.stored {B:Nat} {w1 w:World} {S gm gd g k:Nat} {W H L:Int} {n tF tT:Nat} {vF vU vT:Value} {fs ts:List Value} (h:MS B w S gm gd W H L n tF tT vF vU vT fs ts) (G:za w1 w) (J:B=w1.heap.size) (D:∃cs,ze w g 4 cs) (I:B<=g) (b:Bool):
  MS B (w.drew.setCell ⟨g,k,none⟩ (.bool b)) (w.drew.setCell ⟨g,k,none⟩ (.bool b)).heap.size gm gd W H L n tF tT vF vU vT fs ts/\za w1 (w.drew.setCell ⟨g,k,none⟩ (.bool b)):=by
 obtain ⟨cs,D⟩:=D;have h1:=h.extS ((za.refl w).drew);have E:ze w.drew g 4 cs:=D;have h2:=h1.store (k:=k) E I b;exact ⟨h2.ext (za.refl _),G.drew.setCell (p:=⟨g,k,none⟩) (by show w1.heap.size<=g;omega) _⟩
end
section
open Go.RowKit Go.Shelf
attribute [local go_sem ↓] Go.wp_at_zero Go.wp_at_succ
abbrev Rd:=List UInt8×Bool
def Br (s:Rd):Int×Rd:=match Cc 59 s with
 | some (v,b)=>(v,(b,false))
 | none=>(0,([],true))
theorem Do (s:Rd):Cz (Br s).1:=by
 unfold Br Cc numP
 split
 ·rename_i v b h
  split at h
  ·cases h
  ·split at h
   ·cases h
   ·split at h
    ·rename_i D
     split at h
     ·injection h with h;injection h with h1 h2;subst h1;exact ⟨(Lib.atoiAll_bounds D).1,(Lib.atoiAll_bounds D).2⟩
     ·cases h
    ·cases h
 ·exact ⟨by decide,by decide⟩
theorem intF_len (s:Rd):(Br s).2.1.length<=s.1.length/\((Br s).2.2=false->(Br s).2.1.length<s.1.length):=by
 unfold Br Cc numP
 split
 ·rename_i v b h
  split at h
  ·cases h
  ·split at h
   ·cases h
   ·rename_i D
    have:=(CG D).2
    split at h
    ·split at h
     ·injection h with h;injection h with h1 h2;subst h2;rw [this];exact ⟨by simp;omega,fun _=>by simp;omega⟩
     ·cases h
    ·cases h
 ·exact ⟨by simp,fun h=>by cases h⟩
theorem intF_bad {s:Rd} (h:s.2=true):Br s=(0,([],true)):=by
 unfold Br Cc;rw [if_pos h]
theorem rInt_calls {s:Rd} (w:World) (V:zv w) (h:RdAt w r s) (O:s.1.length<=281474976710656):Calls Tryz.prog 173 #[.pointer (some ⟨r,0,none⟩)] w fun e w'=>e=.returned (.int .i64 (Br s).1)/\zu (·=r) w w'/\RdAt w' r (Br s).2:=by
 have E:=zh (number_calls 59 w V h O);have D:Hid (∀o,o=Cc 59 s->Br s=match o with | some (v,b)=>(v,(b,false)) | none=>(0,([],true))):=fun o ho=>by rw [ho];rfl
 generalize Cc 59 s=o at E D;have D:=zh (D.out o rfl);generalize Br s=i at D;clear V h O
 go_enter Tryz.func173,Tryz.ntmps173
 cases o with
 | none=>
  go_wp2_with fail
  refine E.out.mono ?_;rintro e w1 ⟨G,-,Q⟩;obtain ⟨rfl,I⟩:=Q rfl;have M:=zh I;have J:=zh G;clear G Q I E
  go_wp2_with fail
  go_ret;have e:=D.out;subst e;exact ⟨rfl,J.out,M.out⟩
 | some p=>
  obtain ⟨v,b⟩:=p
  go_wp2_with fail
  refine E.out.mono ?_;rintro e w1 ⟨G,U,-⟩;obtain ⟨rfl,I⟩:=U v b rfl;have M:=zh I;have J:=zh G;clear G U I E
  go_wp2_with fail
  go_ret;have e:=D.out;subst e;exact ⟨rfl,J.out,M.out⟩
def Bk:Nat->Rd->List Int->List Int×Rd
 | 0,s,l=>(l,s)
 | f+1,s,l=>if AH s=0\/s.1.head?=some 93 then (l,s) else Bk f (Br s).2 (l++[(Br s).1])
def intsE (p:List Int×Rd):List Int×Rd:=if AH p.2=0 then ([],([],true)) else (p.1,(p.2.1.tail,false))
def AJ (s:Rd):List Int×Rd:=if AH s=0\/s.1.head?≠some 91 then ([],([],true)) else intsE (Bk s.1.tail.length (s.1.tail,false) [])
theorem intF_nil (s:Rd) (h:(Br s).2.2=true):(Br s).2.1=[]:=by
 unfold Br at h⊢
 cases D:Cc 59 s with
 | none=>rfl
 | some p=>rw [D] at h;cases h
theorem intF_dec {s:Rd} {n:Nat} (h:s.1.length<=n+1):(Br s).2.1.length<=n:=by
 cases D:(Br s).2.2 with
 | false=>have:=(intF_len s).2 D;omega
 | true=>rw [intF_nil s D];simp
def rdSize (r:Nat) (w:World):Nat:=match w.cell? ⟨r,0,none⟩ with
 | some (.string s)=>s.size
 | _=>0
theorem rdSize_of {s:Rd} {w:World} (h:RdAt w r s):rdSize r w=s.1.length:=by
 unfold rdSize;rw [h.cell (k:=0) rfl];simp [ByteArray.size]
theorem head_get {l:List UInt8} (h:0<l.length):∃x l',l=x :: l'/\(ByteArray.mk l.toArray)[0]'h=x:=by
 cases l with
 | nil=>simp at h
 | cons x l'=>exact ⟨x,l',rfl,rfl⟩
theorem Et {w w':World} {B:Nat} {e t:TypeId} {n:Nat} {cs:Array Value} (h:w.ownsRow B e sz v n xs) (I:ze w r t cs) (D:e≠t) (G:zu (·=r) w w'):w'.ownsRow B e sz v n xs:=
 AK h fun g E=>G.block g (World.ownsRow.lt h g E).2 (fun e=>by subst e;exact zn h I D E)
theorem chg_below {a b c:World} {B:Nat} (h:zu X a b) (D:Below B b c) (I:a.heap.size<=B:=by exact Fy _):zu X a c:=
 ⟨D.os.trans h.os,D.tape.trans h.tape,D.output.trans h.output,FA h.size D.size,fun k E G=>(D.block k (by omega)).trans (h.block k E G)⟩
theorem elsF_fuel:∀(f f':Nat) (s:Rd) (l:List Int),s.1.length<=f->s.1.length<=f'->Bk f s l=Bk f' s l
 | 0,0,s,l,_,_=>rfl
 | 0,f'+1,s,l,h,_=>by
  have:s.1=[]:=zac (by omega);unfold Bk;rw [if_pos (.inl (by unfold AH;rw [this];split <;> rfl))]
 | f+1,0,s,l,_,h=>by
  have:s.1=[]:=zac (by omega);unfold Bk;rw [if_pos (.inl (by unfold AH;rw [this];split <;> rfl))]
 | f+1,f'+1,s,l,h,D=>by
  unfold Bk
  split
  ·rfl
  ·rename_i E
   exact elsF_fuel f f' _ _ (intF_dec h) (intF_dec D)
theorem elsF_step {s:Rd} (h0:AH s≠0) (h1:s.1.head?≠some 93):Bk s.1.length s l=Bk (Br s).2.1.length (Br s).2 (l++[(Br s).1]):=by
 have D:0<s.1.length:=by
  unfold AH at h0
  split at h0
  ·exact absurd rfl h0
  ·omega
 obtain ⟨f,hf⟩:∃f,s.1.length=f+1:=⟨s.1.length - 1,by omega⟩;rw [hf,Bk,if_neg (fun h=>h.elim h0 h1)];exact elsF_fuel _ _ _ _ (intF_dec (by omega)) (Fy _)
theorem elsF_stop {s:Rd} (h:AH s=0\/s.1.head?=some 93):Bk s.1.length s l=(l,s):=by
 cases hf:s.1.length with
 | zero=>rfl
 | succ f=>unfold Bk;rw [if_pos h]
theorem elements_calls {s:Rd} (w:World) (hv:zv w) (h:RdAt w r s) (hl:s.1.length<=1000000000000):Calls Tryz.prog 219 #[.pointer (some ⟨r,0,none⟩),.func (.func 173) #[.pointer (some ⟨r,0,none⟩)] #[]] w fun e w'=>∃v,e=.returned v/\zu (·=r) w w'/\RdAt w' r (AJ s).2/\zQ w' w.heap.size v (AJ s).1:=by
 have HL:=zh (wLeft_calls w h);have HF:=zh (CX w h);obtain ⟨l,bad⟩:=s;have c0:=h.cell (k:=0) rfl;have hf:∀k,w.frozen? ⟨r,k,none⟩=false:=fun k=>h.frozen k
 have HR:=zh h;have HV:=zh hv;dsimp only at HL HR c0 hl;clear h hv
 go_enter Tryz.func219,Tryz.ntmps219
 go_wp2_with fail
 refine HL.out.mono ?_;rintro e w1 ⟨rfl,rfl⟩;by_cases E:AH (l,bad)=0
 ·have hI:Hid (AJ (l,bad)=([],([],true))):=by (show _=_);unfold AJ;rw [if_pos (.inl E)]
  have e0:(AH (l,bad):Int)=0:=by omega
  have e1:((AH (l,bad):Int)==0)=true:=by simp [E]
  go_wp2_with fail
  refine HF.out.mono ?_;rintro e w2 ⟨rfl,hC,hr⟩;have HC:=zh hC;have a4:=zh hr;clear hC hr
  go_wp2_with fail
  go_ret;refine ⟨_,rfl,HC.out,?_,?_⟩
  ·rw [hI.out];exact a4.out
  ·rw [hI.out];exact World.ownsRow_nil _ _ _ _
 ·have e0:((AH (l,bad):Int)==0)=false:=by simp [E]
  have a5:bad=false:=by cases bad with | false=>rfl | true=>exact absurd rfl E
  subst a5;have a6:0<l.length:=by unfold AH at E;simp at E;exact List.length_pos_iff.2 E
  have b7:(0:Int)<(l.length:Int):=by omega
  obtain ⟨x,l',O,hx⟩:=head_get a6;by_cases M:x=91
  ·have hq:((((ByteArray.mk l.toArray)[0]'a6).toNat:Int) != 91)=false:=by rw [hx,M];rfl
   have d9:ByteArray.extract ⟨l.toArray⟩ 1 l.length=⟨l'.toArray⟩:=by rw [Eo,O];rfl
   have HI:Hid (AJ (l,false)=intsE (Bk l'.length (l',false) [])):=by
    (show _=_)
    unfold AJ;rw [if_neg (by rw [O,M];simp [AH]),O,M];rfl
   have g1:l'.length<=1000000000000:=by rw [O] at hl;simp at hl;omega
   have HS:Hid (zu (·=r) w (w.setCell ⟨r,0,none⟩ (.string ⟨l'.toArray⟩))/\RdAt (w.setCell ⟨r,0,none⟩ (.string ⟨l'.toArray⟩)) r (l',false)):=⟨Cs (X:=(·=r)) (zu.refl _ _) r 0 _ rfl,ze.set (k:=0) HR.out _⟩;clear O hx M E
   go_wp2_with fail
   go_loopw [5] (fun v wr=>∃s' acc,Hid (Bk l'.length (l',false) []=Bk s'.1.length s' acc)/\Hid (RdAt wr r s')/\Hid (zQ wr w.heap.size v acc)/\Hid (zu (·=r) w wr)/\s'.1.length+acc.length<=l'.length/\∃A c,v=.slice A acc.length c) (fun _ wr=>rdSize r wr)
   case atStart=>exact ⟨(l',false),[],rfl,HS.out.2,World.ownsRow_nil _ _ _ _,HS.out.1,by simp,none,0,rfl⟩
   have d5:=HR;clear HS hq d9 e0 HR HL HF c0 hf b7 hl
   case round=>
    obtain ⟨⟨l1,bad⟩,acc,a0,D,a2,U,a9,A,c,rfl⟩:=hrel;have b6:=wLeft_calls wr D.out;have c1:=D.out.cell (k:=0) rfl;have f8:∀k,wr.frozen? ⟨r,k,none⟩=false:=fun k=>D.out.frozen k
    have g0:l1.length+acc.length<=l'.length:=a9;dsimp only at b6 c1;have J:=zh b6;clear b6 a9;by_cases E:AH (l1,bad)=0
    ·have I:Hid (Bk l'.length (l',false) []=(acc,(l1,bad))):=a0.out.trans (elsF_stop (.inl E));have e1:((AH (l1,bad):Int)==0)=true:=by simp [E]
     have f3:¬ ((0:Int)<(AH (l1,bad):Int)):=by omega
     have f2:decide (0<AH (l1,bad))=false:=FC (by omega)
     go_wp2_with fail
     refine J.out.mono ?_;rintro e w2 ⟨rfl,rfl⟩
     go_wp2_with fail
     have b9:=zh (CX wr D.out);refine J.out.mono ?_;rintro e w3 ⟨rfl,rfl⟩;have HN:Hid (AJ (l,false)=([],([],true))):=by (show _=_);rw [HI.out,I.out];unfold intsE;rw [if_pos E]
     clear J a0 I HI a2
     go_wp2_with fail
     refine b9.out.mono ?_;rintro e w4 ⟨rfl,hC,hr⟩;have HC:=zh (U.out.tr hC);have a4:=zh hr;clear hC hr b9
     go_wp2_with fail
     go_ret;refine ⟨_,rfl,HC.out,?_,?_⟩
     ·rw [HN.out];exact a4.out
     ·rw [HN.out];exact World.ownsRow_nil _ _ _ _
    ·have a5:bad=false:=by cases bad with | false=>rfl | true=>exact absurd rfl E
     subst a5;have Q:0<l1.length:=by unfold AH at E;simp at E;exact List.length_pos_iff.2 E
     obtain ⟨x,l2,G,hx⟩:=head_get Q;have e1:((AH (l1,false):Int)==0)=false:=by simp [E]
     have f3:(0:Int)<(AH (l1,false):Int):=by omega
     have f2:decide (0<AH (l1,false))=true:=FB (by omega);by_cases a1:x=93
     ·have hq:((((ByteArray.mk l1.toArray)[0]'Q).toNat:Int) != 93)=false:=by rw [hx,a1];rfl
      have d9:ByteArray.extract ⟨l1.toArray⟩ 1 l1.length=⟨l2.toArray⟩:=by rw [Eo,G];rfl
      have HN:Hid (AJ (l,false)=(acc,(l2,false))):=by
       (show _=_)
       rw [HI.out,a0.out,elsF_stop (.inr (by rw [G,a1];rfl))];unfold intsE;rw [if_neg E,G];rfl
      have V:Hid (zu (·=r) w (wr.setCell ⟨r,0,none⟩ (.string ⟨l2.toArray⟩))/\RdAt (wr.setCell ⟨r,0,none⟩ (.string ⟨l2.toArray⟩)) r (l2,false)):=⟨Cs (X:=(·=r)) U.out r 0 _ rfl,ze.set (k:=0) D.out _⟩;have a3:Hid (zQ (wr.setCell ⟨r,0,none⟩ (.string ⟨l2.toArray⟩)) w.heap.size (.slice A acc.length c) acc):=Et a2.out D.out (by decide) (Cs (X:=(·=r)) (zu.refl _ _) r 0 _ rfl);clear HI a0 G hx a1 E a2 U D
      go_wp2_with fail
      refine J.out.mono ?_;rintro e w2 ⟨rfl,rfl⟩
      go_wp2_with fail
      refine J.out.mono ?_;rintro e w2 ⟨rfl,rfl⟩;clear J
      go_wp2_with fail
      go_ret;refine ⟨_,rfl,V.out.1,?_,?_⟩
      ·rw [HN.out];exact V.out.2
      ·rw [HN.out];exact a3.out
     ·have hq:((((ByteArray.mk l1.toArray)[0]'Q).toNat:Int) != 93)=true:=by
       rw [hx,bne_iff_ne];intro h;exact a1 (UInt8.toNat_inj.1 (by simpa using Int.ofNat.inj h))
      have I:Hid (Bk l'.length (l',false) []=Bk (Br (l1,false)).2.1.length (Br (l1,false)).2 (acc++[(Br (l1,false)).1])):=a0.out.trans (elsF_step E (by rw [G];simpa using a1));have d7:(Br (l1,false)).2.1.length+1<=l1.length:=by have:=intF_dec (s:=(l1,false)) (n:=l1.length - 1) (by show l1.length<=_;omega);omega
      have b2:=zh (rInt_calls wr (EP HV.out U.out (var_ne HV.out d5.out)) D.out (by show l1.length<=_;omega));obtain ⟨y,hy⟩:=zaI (Br (l1,false));rw [<-hy] at I b2 d7;have f0:Hid (rdSize r wr=l1.length):=rdSize_of D.out;have f5:acc.length<=1000000000000:=by omega
      clear HI a0 G hx a1 E hy
      go_wp2_with fail
      refine J.out.mono ?_;rintro e w2 ⟨rfl,rfl⟩;clear J
      go_wp2_with fail
      refine b2.out.mono ?_;rintro e w3 ⟨rfl,b4,d6⟩;have a3:Hid (zQ w3 w.heap.size (.slice A acc.length c) acc):=Et a2.out D.out (by decide) b4;have V:=zh (U.out.tr b4);have c8:=zh d6;clear b4 d6 b2 a2 U D;have b1:w.heap.size<=w3.heap.size:=V.out.size
      go_wp2_with (at_builtin;refine AZ rfl _ _ rfl _ acc y.1 w.heap.size w3.heap.size 1 _ rfl rfl (a3.out.alloc _) ?d1 ?d2 ?d3 ?_)
      (try case d1=>exact zy _ _ _ (by simp))
      case d2=>(first | (simp;done) | (simp;omega) | omega)
      case d3=>omega
      intro v' w4 b5 d8 f1;have b3:Below w.heap.size w3 w4:=((Below.refl _ w3).alloc b1 _).grown d8.out (by simp;omega) (fun k hk=>(a3.out.lt k hk).1);have e5:Hid (zu (·=r) w w4):=chg_below V.out b3;have c9:Hid (RdAt w4 r y.2):=ze.below c8.out b3 (zd d5.out);obtain ⟨A4,c4,rfl,-⟩:=Bl b5;have e8:=zh b5;clear b5 d8 f1 b3 V c8 a3 b1;go_wp2;go_roundw
      case rel=>exact ⟨y.2,acc++[y.1],I,c9,e8,e5,by simp;omega,A4,c4,by simp⟩
      case measure=>rw [rdSize_of c9.out,f0.out];omega
  ·have hq:((((ByteArray.mk l.toArray)[0]'a6).toNat:Int) != 91)=true:=by
    rw [hx,bne_iff_ne];intro h;exact M (UInt8.toNat_inj.1 (by simpa using Int.ofNat.inj h))
   have hI:Hid (AJ (l,false)=([],([],true))):=by (show _=_);unfold AJ;rw [if_pos (.inr (by rw [O];simpa using M))]
   clear O hx M E
   go_wp2_with fail
   refine HF.out.mono ?_;rintro e w2 ⟨rfl,hC,hr⟩;have HC:=zh hC;have a4:=zh hr;clear hC hr
   go_wp2_with fail
   go_ret;refine ⟨_,rfl,HC.out,?_,?_⟩
   ·rw [hI.out];exact a4.out
   ·rw [hI.out];exact World.ownsRow_nil _ _ _ _
theorem rInts_calls {s:Rd} (w:World) (J:zv w) (h:RdAt w r s) (O:s.1.length<=1000000000000):Calls Tryz.prog 174 #[.pointer (some ⟨r,0,none⟩)] w fun e w'=>∃v,e=.returned v/\zu (·=r) w w'/\RdAt w' r (AJ s).2/\zQ w' w.heap.size v (AJ s).1:=by
 have E:=zh (elements_calls w J h O);generalize AJ s=i at E⊢;clear J h
 go_enter Tryz.func174,Tryz.ntmps174
 go_wp2_with fail
 refine E.out.mono ?_;rintro e w1 ⟨v,rfl,G,I,D⟩;obtain ⟨A,c,rfl,-⟩:=Bl D;have M:=zh (And.intro G (And.intro I D));clear G I D
 go_wp2_with fail
 go_ret;exact ⟨_,rfl,M.out⟩
end
section
open Go.RowKit
def dgB (u:Nat):UInt8:=UInt8.ofNat (48+u)
theorem Ed {u:Nat} (h:u<10):(dgB u).toNat=48+u:=by
 unfold dgB;rw [UInt8.toNat_ofNat'];omega
theorem Dm {u:Nat} (h:u<10):Lib.decDigits u=[dgB u]:=by rw [Lib.decDigits,dif_pos h];rfl
theorem dec_big {u:Nat} (h:¬ u<10):Lib.decDigits u=Lib.decDigits (u / 10)++[dgB (u % 10)]:=by
 conv=>lhs;rw [Lib.decDigits,dif_neg h]
 rfl
theorem CC {n:Int} (h:0<=n):Lib.itoa n=Lib.decDigits n.toNat:=by unfold Lib.itoa;rw [if_neg (by omega)]
theorem DW {n:Int} (h:n<0):Lib.itoa n=45 :: Lib.decDigits n.natAbs:=by unfold Lib.itoa;rw [if_pos h]
theorem itoa_one {n:Int} (h0:0<=n) (h1:n<10):Lib.itoa n=[dgB n.toNat]:=by rw [CC h0,Dm (by omega)]
theorem itoa_sign {n:Int} (h0:n<0) (h1:n.tdiv 10=0):Lib.itoa n=45 :: Lib.itoa (-(n.tmod 10)):=by
 obtain ⟨k,rfl⟩:∃k:Nat,n=-(k:Int):=⟨n.natAbs,by omega⟩;have e1:(-(k:Int)).tdiv 10=-((k / 10:Nat):Int):=by rw [Int.neg_tdiv];rfl
 have e2:(-(k:Int)).tmod 10=-((k % 10:Nat):Int):=by rw [Int.neg_tmod];rfl
 rw [e1] at h1;rw [e2,Int.neg_neg,DW h0,CC (by omega)];have:(-(k:Int)).natAbs=k:=by omega
 rw [this,za1,Nat.mod_eq_of_lt (by omega)]
theorem itoa_more {n:Int} (h0:n<0) (h1:n.tdiv 10≠0):Lib.itoa n=Lib.itoa (n.tdiv 10)++Lib.itoa (-(n.tmod 10)):=by
 obtain ⟨k,rfl⟩:∃k:Nat,n=-(k:Int):=⟨n.natAbs,by omega⟩;have e1:(-(k:Int)).tdiv 10=-((k / 10:Nat):Int):=by rw [Int.neg_tdiv];rfl
 have e2:(-(k:Int)).tmod 10=-((k % 10:Nat):Int):=by rw [Int.neg_tmod];rfl
 rw [e1] at h1⊢;rw [e2,Int.neg_neg,DW h0,DW (by omega),CC (by omega)];have a1:(-(k:Int)).natAbs=k:=by omega
 have a2:(-((k / 10:Nat):Int)).natAbs=k / 10:=by omega
 rw [a1,a2,za1,dec_big (by omega),Dm (Nat.mod_lt _ (by decide))];rfl
theorem itoa_plus {n:Int} (h0:0<=n) (h1:¬ n<10):Lib.itoa n=Lib.itoa (n.tdiv 10)++Lib.itoa (n.tmod 10):=by
 obtain ⟨k,rfl⟩:∃k:Nat,n=(k:Int):=⟨n.toNat,by omega⟩;have e1:((k:Int)).tdiv 10=((k / 10:Nat):Int):=rfl;have e2:((k:Int)).tmod 10=((k % 10:Nat):Int):=rfl;rw [e1,e2,CC h0,CC (by omega),CC (by omega),za1,za1,za1,dec_big (by omega),Dm (u:=k % 10) (Nat.mod_lt _ (by decide))]
def AC:List UInt8->Int->Option Int
 | [],n=>some n
 | c :: l,n=>if (c.toNat:Int) - 48<0\/9<(c.toNat:Int) - 48\/n< -922337203685477580\/(n=-922337203685477580/\8<(c.toNat:Int) - 48) then none else AC l (10*n - ((c.toNat:Int) - 48))
theorem refDig_app:∀(a b:List UInt8) (n:Int),AC (a++b) n=(AC a n).bind (AC b)
 | [],b,n=>rfl
 | c :: a,b,n=>by
  simp only [List.cons_append,AC]
  split
  ·rfl
  ·exact refDig_app a b _
theorem refDig_dec (u:Nat) (h:u<=9223372036854775808):AC (Lib.decDigits u) 0=some (-(u:Int)):=by
 induction u using Nat.strongRecOn with
 | ind u ih=>
  by_cases D:u<10
  ·rw [Dm D];have:=Ed D;simp only [AC,this];rw [if_neg (by omega)];congr 1;omega
  ·rw [dec_big D,refDig_app,ih (u / 10) (by omega) (by omega)];have:=Ed (Nat.mod_lt u (show 0<10 by decide));simp only [Option.bind_some,AC,this];rw [if_neg (by omega)];congr 1;omega
theorem EL:∀(l:List UInt8) (n v:Int),n<=0->-9223372036854775808<=n->AC l n=some v->v<=0/\-9223372036854775808<=v
 | [],n,v,h0,h1,h=>by
  injection h with h;omega
 | c :: l,n,v,h0,h1,h=>by
  simp only [AC] at h
  split at h
  ·cases h
  ·exact EL l _ v (by omega) (by omega) h
def BY (a:List UInt8):Option Int:=
 if a.head?=some 45 then (AC a.tail 0).bind fun n=>if Lib.itoa n=a then some n else none
 else (AC a 0).bind fun n=>if n=-9223372036854775808 then none else if Lib.itoa (-n)=a then some (-n) else none
theorem dec_head (u:Nat):∃k,k<10/\∃l,Lib.decDigits u=dgB k :: l:=by
 induction u using Nat.strongRecOn with
 | ind u ih=>
  by_cases D:u<10
  ·exact ⟨u,D,[],Dm D⟩
  ·obtain ⟨k,E,l,h⟩:=ih (u / 10) (by omega);exact ⟨k,E,l++[dgB (u % 10)],by rw [dec_big D,h];rfl⟩
theorem refNum_of {v:Int} (h:Cz v):BY (Lib.itoa v)=some v:=by
 obtain ⟨h0,h1⟩:=h;unfold BY;by_cases G:v<0
 ·have e:=DW G;rw [if_pos (by rw [e];rfl)];have e2:(Lib.itoa v).tail=Lib.decDigits v.natAbs:=by rw [e];rfl
  rw [e2,refDig_dec _ (by omega),Option.bind_some];have e3:-((v.natAbs:Nat):Int)=v:=by omega
  rw [e3,if_pos rfl]
 ·have e:=CC (n:=v) (by omega);obtain ⟨k,E,l,D⟩:=dec_head v.toNat
  rw [if_neg (by
   rw [e,D];intro hh;injection hh with hh;have:=Ed E;rw [hh] at this;simp at this;omega)]
  have e2:AC (Lib.itoa v) 0=some (-(v.toNat:Int)):=by rw [e];exact refDig_dec _ (by omega)
  rw [e2,Option.bind_some,if_neg (by omega)];have e3:-(-(v.toNat:Int))=v:=by omega
  rw [e3,if_pos rfl]
theorem refNum_some {a:List UInt8} {v:Int} (h:BY a=some v):Cz v/\Lib.itoa v=a:=by
 unfold BY at h
 split at h
 ·cases D:AC a.tail 0 with
  | none=>rw [D] at h;cases h
  | some n=>
   rw [D,Option.bind_some] at h;have:=EL _ _ _ (by omega) (by omega) D
   split at h
   ·rename_i he
    injection h with h;subst h;exact ⟨⟨by omega,by omega⟩,he⟩
   ·cases h
 ·cases D:AC a 0 with
  | none=>rw [D] at h;cases h
  | some n=>
   rw [D,Option.bind_some] at h;have:=EL _ _ _ (by omega) (by omega) D
   split at h
   ·cases h
   ·split at h
    ·rename_i E he
     injection h with h;subst h;exact ⟨⟨by omega,by omega⟩,he⟩
    ·cases h
theorem parse_dec (u:Nat) (h:u<=9223372036854775808):Lib.parseUint10 0 (Lib.decDigits u)=.ok u:=by
 have app:∀(a b:List UInt8) (n m:Nat),Lib.parseUint10 n a=.ok m->Lib.parseUint10 n (a++b)=Lib.parseUint10 m b:=by
  intro a
  induction a with
  | nil=>intro b n m h;simp only [Lib.parseUint10] at h;injection h with h;subst h;rfl
  | cons c a ih=>
   intro b n m h;simp only [List.cons_append,Lib.parseUint10] at h⊢
   split at h
   ·rename_i h1
    rw [if_pos h1]
    split at h
    ·cases h
    ·rename_i h2
     rw [if_neg h2]
     split at h
     ·cases h
     ·rename_i h3
      rw [if_neg h3];exact ih b _ _ h
   ·cases h
 induction u using Nat.strongRecOn with
 | ind u ih=>
  by_cases D:u<10
  ·rw [Dm D];have:=Ed D;simp only [Lib.parseUint10,this];rw [if_pos (by omega),if_neg (by omega),if_neg (by omega)];congr 1;omega
  ·rw [dec_big D,app _ _ _ _ (ih (u / 10) (by omega) (by omega))];have:=Ed (Nat.mod_lt u (show 0<10 by decide));simp only [Lib.parseUint10,this];rw [if_pos (by omega),if_neg (by omega),if_neg (by omega)];congr 1;omega
theorem atoi_itoa {v:Int} (h:Cz v):Lib.atoiAll (Lib.itoa v)=.ok v:=by
 obtain ⟨h0,h1⟩:=h;by_cases M:v<0
 ·have hp:=parse_dec v.natAbs (by omega);have G:Lib.decDigits v.natAbs≠[]:=by obtain ⟨k,-,l,E⟩:=dec_head v.natAbs;rw [E];simp
  have D:Lib.parseMag (Lib.decDigits v.natAbs)=.ok v.natAbs:=by unfold Lib.parseMag;rw [if_neg G];exact hp
  rw [DW M];unfold Lib.atoiAll;have e:(45:UInt8).toNat=45:=rfl;simp only [e];rw [if_pos (Or.inr trivial),D];simp only [true_and,not_true,false_and,if_false,if_true];rw [if_neg (by omega)];congr 1;omega
 ·have hp:=parse_dec v.toNat (by omega);obtain ⟨k,I,l,E⟩:=dec_head v.toNat;have J:=Ed I;have D:Lib.parseMag (dgB k :: l)=.ok v.toNat:=by unfold Lib.parseMag;rw [if_neg (by simp),<-E];exact hp
  have n43:(dgB k).toNat≠43:=by omega
  have n45:(dgB k).toNat≠45:=by omega
  rw [CC (by omega),E];unfold Lib.atoiAll;simp only [n43,n45,or_self,if_false,not_false_eq_true,true_and,false_and];rw [D];simp only;rw [if_neg (by omega)];congr 1;omega
theorem numP_ref (c:UInt8) (l:List UInt8):numP c l=(Cw c l).bind fun p=>(BY p.1).map fun v=>(v,p.2):=by
 unfold numP
 cases Cw c l with
 | none=>rfl
 | some p=>
  obtain ⟨a,b⟩:=p;simp only [Option.bind_some]
  cases D:BY a with
  | some v=>
   obtain ⟨h1,h2⟩:=refNum_some D;have:=atoi_itoa h1;rw [h2] at this;rw [this];simp only;rw [if_pos h2];rfl
  | none=>
   rcases E:Lib.atoiAll a with v | _ | _
   ·simp only;rw [if_neg]
    ·rfl
    ·intro he;have:=Lib.atoiAll_bounds E;have:=refNum_of (v:=v) ⟨this.1,this.2⟩;rw [he,D] at this;cases this
   ·rfl
   ·rfl
end
end Go.Proofs.YtjomnbdjajjgfaaGreatDoor
