import Derived.Test.YtcnaogdgjkpkmaaGreatDoorWSk
import Derived.Deep.AppendLies
set_option linter.unusedVariables false
set_option linter.unusedSimpArgs false
set_option maxRecDepth 100000
set_option maxHeartbeats 16000000
namespace Go.Proofs.YtcnaogdgjkpkmaaGreatDoor
variable {l:List (List Int)} {ch:List Int} {ptrs:List Nat} {vs:List Value} {m:MZ} {cap g gr:Nat} {X Y:Nat->Prop} {s:RS} {v v':Value} {w w' wr:World}
section
open Go.RowKit
attribute [local go_sem ↓] Go.wp_at_zero Go.wp_at_succ
theorem one_isCh (h:zw m s.ch):zw m (s.one m).ch/\(s.one m).steps=s.steps+1:=by
 unfold RS.one
 split
 ·rename_i c d;exact ⟨(stepC_some h d).1,rfl⟩
 ·exact ⟨.nil,rfl⟩
theorem run_isCh {m:MZ}:∀(n:Nat) {s:RS},zw m s.ch->zw m (RS.run m n s).ch
 | 0,s,h=>h
 | n+1,s,h=>by
  unfold RS.run
  split
  ·exact h
  ·exact run_isCh n (one_isCh h).1
theorem run_steps {m:MZ}:∀(n:Nat) {s:RS},zw m s.ch->s.steps<=(RS.run m n s).steps/\(RS.run m n s).steps<=s.steps+n
 | 0,s,h=>⟨Int.le_refl _,by simp [RS.run]⟩
 | n+1,s,h=>by
  unfold RS.run
  split
  ·exact ⟨Int.le_refl _,by omega⟩
  ·have h1:=one_isCh h;have h2:=run_steps n h1.1;omega
structure RunR (w wr:World) (X Y:Nat->Prop) (g gr cap:Nat) (m:MZ) (s0:RS) (n:Nat) (s:RS) (pt:List Nat) (k:Nat):Prop where
 rt:Av wr X Y g gr cap m s pt
 chg:zm X w wr
 run:RS.run m k s=RS.run m n s0
 ch:zw m s.ch
 st:0<=s.steps/\s.steps+k<=4000000000000000000
def RunPost (w:World) (X Y:Nat->Prop) (g:Nat) (m:MZ) (s:RS) (e:Ending) (w':World):Prop:=
 e=.returned (.bool s.done)/\∃gr' cap' ptrs',Av w' X Y g gr' cap' m s ptrs'/\zm X w w'
theorem stepN_calls (n:Nat) (w:World) (h:Av w X Y g gr cap m s ptrs) (gd:Am m) (hl:Lens m) (hc:zw m s.ch) (hn:n<=1000000) (M:0<=s.steps) (a6:s.steps<=3000000000000000000)
  (J:∀b,w.heap.size<=b->X b) (K:∀b,Y b->b<w.heap.size):
  Calls Tryz.prog 22 #[.pointer (some ⟨g,0,none⟩),.int .i64 n] w (RunPost w X Y g m (RS.run m n s)):=by
 have H0:Hid (RunR w w X Y g gr cap m s n s ptrs n):=⟨h,zm.refl _ _,rfl,hc,M,by omega⟩;have GD:=zh gd;have HL:=zh hl;have Q:=zh J;have U:=zh K;have a2:w.cell? ⟨g,0,none⟩=some (.slice (some ⟨gr,0,none⟩) ptrs.length cap):=h.blk.cell (k:=0) rfl;have a5:ptrs.length=s.ch.length+1:=h.row.2.1;have a0:((ptrs.length:Int)==0)=false:=by rw [DP];omega
 obtain ⟨R,o⟩:=EH (RS.run m n s);rw [<-o];have HR:=zh o;clear h gd hl hc J K M a6 a5 o
 go_enter Tryz.func22,Tryz.ntmps22
 go_wp2_with fail
 clear a2 a0
 go_loopg [1] n (fun gk v wr=>∃gr cap s' pt,v=.int .i64 gk/\gk<=n/\Hid (RunR w wr X Y g gr cap m s n s' pt gk))
 case atStart=>exact ⟨gr,cap,s,ptrs,rfl,DC _,H0⟩
 clear H0
 case round=>
  obtain ⟨gr,cap,s',pt,rfl,b4,o⟩:=hrel;have I:=o.out.rt;have L:wr.cell? ⟨g,1,none⟩=some (.bool s'.done):=I.blk.cell (k:=1) rfl;have G:=zh I;clear I;obtain ⟨d,hd⟩:=EH s'.done;rw [<-hd] at L;have O:=zh hd;clear hd
  cases gk with
  | zero=>
   have a4:decide ((0:Int)<((0:Nat):Int))=false:=by simp
   have r:RunPost w X Y g m R (.returned (.bool d)) wr:=by
    have h1:=o.out.run;rw [<-HR.out] at h1;rw [<-h1,O.out];exact ⟨rfl,gr,cap,pt,G.out,o.out.chg⟩
   have B:=zh r;clear r
   go_wp2_with fail
   go_ret;exact B.out
  | succ k=>
   have a4:decide ((0:Int)<((k+1:Nat):Int))=true:=DF (by omega);have b1:(0:Int)<((k+1:Nat):Int):=by omega
   cases d with
   | true=>
    have r:RunPost w X Y g m R (.returned (.bool true)) wr:=by
     have h1:=o.out.run;rw [RS.run_done O.out.symm,<-HR.out] at h1;rw [<-h1];exact ⟨by rw [<-O.out],gr,cap,pt,G.out,o.out.chg⟩
    have B:=zh r;clear r
    go_wp2_with fail
    go_ret;exact B.out
   | false=>
    go_wp2_with fail
    refine (stepX_calls wr G.out GD.out HL.out o.out.ch o.out.st.1 (by have:=o.out.st.2;omega) (fun b hb=>Q.out b (DE o.out.chg.size hb)) (fun b hb=>Ee (U.out b hb) o.out.chg.size)).mono ?_;rintro e w5 ⟨rfl,gr',cap',pt',E,D⟩
    have HN:Hid (RunR w w5 X Y g gr' cap' m s n (s'.one m) pt' k):=by
     have h1:=one_isCh o.out.ch;have h2:=o.out.st;have V:=o.out.run;unfold RS.run at V;rw [<-O.out,if_neg (by simp)] at V;exact ⟨E,o.out.chg.tr D,V.trans (by cases n <;> rfl),h1.1,by omega⟩
    clear E D L
    go_wp2_with fail
    go_roundg k
    case measure=>omega
    case rel=>exact ⟨gr',cap',_,pt',by go_num,by omega,HN⟩
structure FL (w wr:World) (v:Value) (vs:List Value) (l:List (List Int)):Prop where
 ext:zc w wr
 own:OwnL wr w.heap.size v vs
 len:vs.length=l.length
 each:∀(j:Nat) x,l[j]?=some x->∃u,vs[j]?=some u/\zF wr w.heap.size u x
theorem FL.nil (w wr:World) (h:zc w wr):FL w wr (.slice none 0 0) [] []:=⟨h,World.ownsRow_nil _ _ _ _,rfl,fun j x h=>by simp at h⟩
theorem FL.more (h:FL w wr v vs l) (d:zc wr w'):FL w w' v vs l:=by
 have o:wr.grownBy w' none:=⟨d.os,d.tape,d.output,d.size,fun i r _=>d.block i r⟩;refine ⟨h.ext.trans d,h.own.kept o (by cases h:v.ownBlock <;> simp),h.len,fun j x B=>?_⟩;obtain ⟨u,E,D⟩:=h.each j x B;exact ⟨u,E,D.kept o (by cases h:u.ownBlock <;> simp)⟩
theorem own_neT {B B':Nat} {e e':TypeId} {sz sz' n n':Nat} {xs xs':List Value} (h:w.ownsRow B e sz v n xs) (D:w.ownsRow B' e' sz' v' n' xs') (r:e≠e'):v.ownBlock=none\/v.ownBlock≠v'.ownBlock:=by
 rcases h.2 with ⟨rfl,_⟩ | ⟨g,cap,cur,rfl,_,hh,_⟩
 ·left;rfl
 ·right
  rcases D.2 with ⟨rfl,_⟩ | ⟨g',cap',cur',rfl,_,d,_⟩
  ·simp [Value.ownBlock]
  ·intro he;have o:g=g':=by simpa [Value.ownBlock] using he
   subst o;rw [hh] at d;injection d with d;injection d with _ ht;exact r ht
theorem FL.app {u:Value} {x:List Int} {o:Obj} (h:FL w wr v vs l) (K:zF wr w.heap.size u x) (J:w'.ownsRow w.heap.size 24 1 v' (vs.length+1) (vs++[u])) (G:(wr.alloc o).grownBy w' v.ownBlock):FL w w' v' (vs++[u]) (l++[x]):=by
 have I:zc wr (wr.alloc o):=(zc.refl _).alloc _;have h1:=h.more I;have B:∀{u':Value} {x':List Int},zF wr w.heap.size u' x'->zF w' w.heap.size u' x':=fun d=>(World.ownsRow.alloc d o).kept G (own_neT d h.own (by decide))
 refine ⟨AX h1.ext G h1.ext.size (fun k B=>(h1.own.lt k B).1),?_,by simp [h.len],fun j y r=>?_⟩
 ·show w'.ownsRow _ _ _ _ (vs++[u]).length _;rw [DK,Ec];exact J
 ·rcases DZ j l.length with hjl | hjl
  ·rw [DH hjl] at r;obtain ⟨u',d,E⟩:=h.each j y r;exact ⟨u',by rw [DH (by rw [h.len];exact hjl)];exact d,B E⟩
  ·have D:j=l.length:=by
    rcases DZ j (l++[x]).length with h1 | h1
    ·simp at h1;omega
    ·rw [DW h1] at r;cases r
   subst D;rw [DI (DC _)] at r;have L:x=y:=by simpa using r
   subst L;exact ⟨u,by rw [<-h.len,DI (DC _)];simp,B K⟩
theorem FL.intss (h:FL w wr v vs l):Ai wr (fun b=>w.heap.size<=b) v l:=
 ⟨vs,by rw [<-h.len];exact An.of_own h.own,fun j x d=>by
  obtain ⟨u,r,o⟩:=h.each j x d;exact ⟨u,r,An.of_own o⟩⟩
def foundL (m:MZ) (ch:List Int):List (List Int):=if AR m ch=true then Ad m ch else []
def BP (w:World) (m:MZ) (ch:List Int) (e:Ending) (w':World):Prop:=
 ∃v,e=.returned (.tuple #[v,.bool (AR m ch)])/\zc w w'/\Ai w' (fun b=>w.heap.size<=b) v (foundL m ch)
theorem found_c (w:World) (h:Av w X Y g gr cap m s ptrs) (gd:Am m) (hl:Lens m) (V:zw m s.ch):
  Calls Tryz.prog 23 #[.pointer (some ⟨g,0,none⟩)] w (BP w m s.ch):=by
 obtain ⟨p,hp,a8,d6⟩:=h.row.last;have hn:=V.len300 gd;have b8:=zh (last_c (w':=w) h hp (by omega));have c0:Hid (∀w2,zc w w2->Calls Tryz.prog 53 #[.pointer (some ⟨g,0,none⟩)] w2 fun e w'=>e=.returned (.pointer (some ⟨p,0,none⟩))/\zG w2 w'):=fun w2 hE=>last_c (w':=w2) (h.ext hE) hp (by omega)
 have e7:w.cell? ⟨g,0,none⟩=some (.slice (some ⟨gr,0,none⟩) ptrs.length cap):=h.blk.cell (k:=0) rfl;have L:ptrs.length=s.ch.length+1:=h.row.2.1;have d5:((ptrs.length:Int)==0)=false:=by rw [DP];omega
 have U:=zh a8;have GD:=zh gd;have HL:=zh hl;have HC:=zh V;obtain ⟨i0,hi,b1,b2,b3⟩:=info_parts Tryz.infoInts;have IF:=zh hi;have IZ0:=zh b1;have IZ1:=zh b2;have IZ2:=zh b3;clear hi b1 b2 b3;clear h gd hl V L hp d6 a8 hn;obtain ⟨cb,a0⟩:=EH (AR m s.ch);have o:=zh a0;clear a0
 go_enter Tryz.func23,Tryz.ntmps23
 go_wp2_with fail
 refine b8.out.mono ?_;rintro e w1 ⟨rfl,a1⟩;have Q:zc w w1:=a1.below _;clear a1
 go_wp2_with fail
 refine (CW w1 (U.out.ext Q) GD.out HL.out HC.out).mono ?_;rintro e w2 ⟨rfl,a2⟩;have I:zc w w2:=Q.trans (a2.below _);rw [<-o.out];clear a2 Q d5
 cases cb with
 | false=>
  have d:BP w m s.ch (.returned (.tuple #[.slice none 0 0,.bool false])) w2:=⟨_,by rw [o.out],I,by unfold foundL;rw [<-o.out];exact Ai.nil _ _⟩;have r:=zh d;clear d
  go_wp2_with fail
  go_ret2
  exact r.out
 | true=>
  go_wp2_with fail
  refine (c0.out w2 I).mono ?_;rintro e w3 ⟨rfl,a3⟩;have e0:zc w w3:=I.trans (a3.below _);clear a3 I;obtain ⟨us,f,u,t,vc,vp,gu,_,G⟩:=U.out;obtain ⟨_,_,_,_,_,_,_,r7,_⟩:=G.rules;have M:=G.ps;clear G;have a6:Hid (∀p∈Ad m s.ch,p.length<=1000):=(HC.out.sok GD.out HL.out).pp;have L:(Ad m s.ch).length<=6:=by have:=(HC.out.sok GD.out HL.out).pl;have:=GD.out.tk;omega
  obtain ⟨ps,E⟩:=EH (Ad m s.ch);rw [<-E] at M a6 L;have c7:=zh E;clear E;have HP:=zh M;obtain ⟨vs,⟨Ap,cp,rfl,e8,a7⟩,a4⟩:=M;have c8:=zh a7;have b6:=zh a4;clear a7 a4;have H0:=zh (FL.nil w w3 e0)
  go_wp2_with fail
  go_loopg [4,29] ps.length (fun gk v vi wr=>∃(i:Nat) (vs:List Value),vi=.int .i64 i/\i<=ps.length/\gk=ps.length - i/\Hid (FL w wr v vs (ps.take i)))
  case atStart=>exact ⟨0,[],rfl,DR _,rfl,H0⟩
  clear H0
  case round=>
   obtain ⟨i,vl,rfl,hi,rfl,hF⟩:=hrel;have b0:=hF.out.ext;rcases DZ i ps.length with D | hge
   ·obtain ⟨bp,op,up,rfl,_,B,a9⟩:=BG c8.out b6.out D D;have q0:=zc.rule B;clear B;have a5:=a6.out _ (DD D);have c9:=zh a9;clear a9
    obtain ⟨As,cs,rfl,e9⟩:∃A c,u4=.slice A vl.length c/\vl.length<=c:=by
     obtain ⟨A,c,e,V,_⟩:=An.of_own hF.out.own;exact ⟨A,c,e,V⟩
    have O:=hF.out.len;have b9:=zh a5;clear a5;have e5:=zh O;have e4:vl.length<=6:=by rw [O,Et];omega
    clear O
    go_wp2_with fail
    refine (BD _ (c9.out.below b0) (by have:=b9.out;omega)).mono ?_;rintro e w4 ⟨v4,rfl,hM⟩;have K:=zh (hF.out.more hM.ext);have c6:Hid (zF w4 w.heap.size v4 ps[i]):=World.ownsRow.mono hM.own b0.size;obtain ⟨A4,c4,rfl,_⟩:=hM.slice;have f1:w.heap.size<=w4.heap.size:=K.out.ext.size;clear hM
    go_wp2_with (at_builtin;refine wpList_append_own_at _ rfl _ _ 22 rfl w.heap.size 24 i0 (.slice none 0 0) 1 24 Tryz.underlying22 IF.out IZ0.out IZ1.out IZ2.out rfl (by decide) (.slice As vl.length cs) vl.length _ rfl (K.out.own.alloc _) ⟨w4.heap.size,0,none⟩ 1 1 [.slice A4 ps[i].length c4] rfl rfl (cell_one_new _ _ _) (by simp [Value.oneCell']) (by unfold maxLen;omega) (by omega) (by simp;omega) ?_)
    intro v' w5 J hg _ d9;have d4:=zh (K.out.app c6.out J hg);clear J hg d9
    go_wp2_with fail
    go_roundg (ps.length - (i+1))
    case measure=>omega
    case rel=>exact ⟨i+1,_,by go_num,D,rfl,by rw [DJ D];exact d4⟩
   ·have d8:i=ps.length:=by omega
    subst d8
    have d:BP w m s.ch (.returned (.tuple #[u4,.bool true])) wr:=by
     refine ⟨u4,by rw [o.out],hF.out.ext,?_⟩;unfold foundL;rw [<-o.out,if_pos rfl,<-c7.out];have:=hF.out.intss
     rwa [DN] at this
    have r:=zh d;clear d
    go_wp2_with fail
    go_ret2
    exact r.out
def isChB (m:MZ) (ch:List Int):Bool:=(List.range ch.length).all fun k=>decide (ch.getD k 0∈Bc m (ch.take k))
theorem isCh_of {m:MZ} {ch:List Int} (h:∀k,k<ch.length->ch.getD k 0∈Bc m (ch.take k)):∀k,k<=ch.length->zw m (ch.take k)
 | 0,_=>by simpa using zw.nil
 | k+1,d=>by
  rw [DJ (by omega)];have h1:=h k (by omega);rw [DB,DA (by omega),Eh] at h1;exact .snoc (isCh_of h k (by omega)) h1
theorem Bj:isChB m ch=true↔zw m ch:=by
 unfold isChB;rw [ED];constructor
 ·intro h;have:=isCh_of (m:=m) (ch:=ch) (fun k d=>EE (h k (Ez.2 d))) ch.length (DC _)
  rwa [DN] at this
 ·intro h k d;have d:=Ez.1 d;rw [DM,DB,DA d,Eh];exact h.at d
noncomputable def loadE (m:MZ) (ch:List Int) (st:Int):Int:=
 if Br m≠0 then Br m else if st<0 then 1 else if (isChB m ch && (decide (ch=[]) || Bu m ch))=true then 0 else 51
def loadS (m:MZ) (ch:List Int) (st:Int):RS:=⟨ch,AR m ch || (decide (ch=[]) && decide (0<st)),st⟩
theorem Av.new {wb:World} {X Y ok:Nat->Prop} {p:Nat} {m:MZ} {st:Int} (o:Dy wb ok p m []) (d:∀b,ok b->b<wb.heap.size->X b\/Y b) (r:∀b,wb.heap.size<=b->X b) (B:∀b,Y b->b<wb.heap.size):
  Av ((wb.alloc (.cells #[ptrV p] 92)).alloc (.cells #[.slice (some ⟨wb.heap.size,0,none⟩) 1 1,.bool false,.int .i64 st] 91)) X Y (wb.heap.size+1) wb.heap.size 1 m ⟨[],false,st⟩ [p]:=by
 have E:zc wb ((wb.alloc (.cells #[ptrV p] 92)).alloc (.cells #[.slice (some ⟨wb.heap.size,0,none⟩) 1 1,.bool false,.int .i64 st] 91)):=((zc.refl _).alloc _).alloc _;refine ⟨zj.new _ _ _ (by simp),r _ (by omega),r _ (by omega),by omega,fun h=>by have:=B _ h;omega,fun h=>by have:=B _ h;omega,?_,rfl,?_⟩
 ·exact ⟨rfl,.inr ⟨wb.heap.size,1,#[ptrV p],rfl,DR _,(zj.new wb _ _ rfl).alloc _,DC _,by unfold maxLen;omega,rfl,rfl⟩⟩
 ·intro k p' hp
  match k,hp with
  | 0,hp=>
   have:p=p':=by simpa using hp
   subst this;refine (o.bound.ext E).weaken fun b D=>?_
   rcases d b D.1 D.2 with h | h
   ·exact .inl ⟨h,by omega,by omega⟩
   ·exact .inr h
def Bo (w:World) (Y:Nat->Prop) (m:MZ) (ch:List Int) (st:Int) (e:Ending) (w':World):Prop:=
 ∃v,e=.returned (.tuple #[v,.int .i64 (loadE m ch st)])/\zc w w'/\
  ((loadE m ch st≠0/\v=.pointer none)\/(loadE m ch st=0/\Am m/\zw m ch/\∃g gr cap pt,v=ptrV g/\Av w' (fun b=>w.heap.size<=b) Y g gr cap m (loadS m ch st) pt))
structure LR (w wr:World) (Y:Nat->Prop) (g gr cap:Nat) (m:MZ) (ch:List Int) (st:Int) (k:Nat) (pt:List Nat):Prop where
 rt:Av wr (fun b=>w.heap.size<=b) Y g gr cap m ⟨ch.take k,false,st⟩ pt
 ext:zc w wr
 ch:zw m (ch.take k)
theorem load_fin {w9:World} {st:Int} {pt:List Nat} {d:Bool} {c:List Int} (h:Av w9 (fun b=>w.heap.size<=b) Y g gr cap m ⟨c,false,st⟩ pt) (B:zc w w9) (D:c=ch) (r:zw m ch) (G:Am m) (o:loadE m ch st=0) (E:d=(loadS m ch st).done):
  Bo w Y m ch st (.returned (.tuple #[.pointer (some ⟨g,0,none⟩),.int .i64 0])) (w9.setCell ⟨g,1,none⟩ (.bool d)):=by
 subst D;refine ⟨.pointer (some ⟨g,0,none⟩),by rw [o],B.setCell (p:=⟨g,1,none⟩) h.xg _,.inr ⟨o,G,r,g,gr,cap,pt,rfl,?_⟩⟩;have:=h.done d;rw [E] at this⊢;exact this
theorem load_calls {okc:Nat->Prop} {vc:Value} (st:Int) (w:World) (hm:zM w Y v m) (hl:Lens m) (h7:zn w okc vc ch) (l4:ch.length<=20000000000000) (h6:∀b,Y b->b<w.heap.size):
  Calls Tryz.prog 51 #[v,vc,.int .i64 st] w (Bo w Y m ch st):=by
 have i1:=hm;obtain ⟨vfr,vup,vts,rfl,_,_,j7⟩:=hm;have h4:=zh i1;clear i1 j7;have k3:=zh h7;obtain ⟨Ac,cc,rfl,l3,i3⟩:=h7;have i8:=zh i3;clear i3;have HL:=zh hl;clear hl;have d8:=zh h6;clear h6;obtain ⟨MV,j0⟩:=EH (Value.agg #[.int .i64 m.w,.int .i64 m.h,.int .i64 m.l,vfr,vup,vts]);obtain ⟨ck,h8⟩:=EH (Br m);have d4:=zh h8;clear h8;obtain ⟨i0,hi,i6,f3,e7⟩:=info_parts Tryz.infoPst;have IF:=zh hi;have IZ0:=zh i6;have IZ1:=zh f3;have IZ2:=zh e7;clear hi i6 f3 e7 j0
 go_enter Tryz.func51,Tryz.ntmps51
 go_wp2_with fail
 generalize g8:w.alloc (.cells #[.int .i64 m.w,.int .i64 m.h,.int .i64 m.l,vfr,vup,vts] 35)=w1;have g0:zc w w1:=by rw [<-g8];exact (zc.refl w).alloc _
 have h9:zj w1 w.heap.size 35 #[.int .i64 m.w,.int .i64 m.h,.int .i64 m.l,vfr,vup,vts]:=by rw [<-g8];exact Eo _ _
 clear g8;obtain ⟨m0,m1,m2,m3,m4,m5⟩:=zA h9;have c0:=zc.rule m0;have c1:=zc.rule m1;have c2:=zc.rule m2;have c3:=zc.rule m3;have c4:=zc.rule m4;have c5:=zc.rule m5;clear m0 m1 m2 m3 m4 m5 h9;refine (Be w1 (h4.out.below g0) HL.out).mono ?_;rintro e w2 ⟨rfl,f2⟩;have f2:zc w1 w2:=f2;have c7:zc w w2:=g0.trans f2;rw [<-d4.out];by_cases h0:ck=0
 case neg=>
  have l5:(ck==0)=false:=by rw [DP];exact h0
  have l6:(ck != 0)=true:=by rw [bne_iff_ne];exact h0
  have U:loadE m ch st=ck:=by unfold loadE;rw [<-d4.out,if_pos h0]
  have M:Bo w Y m ch st (.returned (.tuple #[.pointer none,.int .i64 ck])) w2:=⟨.pointer none,by rw [U],c7,.inl ⟨by rw [U];exact h0,rfl⟩⟩;have G:=zh M;clear M U h0
  go_wp2_with fail
  go_ret2
  exact G.out
 case pos=>
  subst h0;have HG:=zh (Am.of d4.out.symm);by_cases f1:st<0
  ·have U:loadE m ch st=1:=by unfold loadE;rw [<-d4.out,if_neg (by simp),if_pos f1]
   have M:Bo w Y m ch st (.returned (.tuple #[.pointer none,.int .i64 1])) w2:=⟨.pointer none,by rw [U],c7,.inl ⟨by rw [U];decide,rfl⟩⟩;have G:=zh M;clear M U
   go_wp2_with fail
   go_ret2
   exact G.out
  ·have k9:0<=st:=by omega
   have l7:decide (st<0)=false:=DG f1
   have d6:Hid (loadE m ch st=if (isChB m ch && (decide (ch=[]) || Bu m ch))=true then 0 else 51):=by
    show loadE m ch st=_;unfold loadE;rw [<-d4.out,if_neg (by simp),if_neg f1]
   clear f1
   go_wp2_with fail
   refine (begin_c w2 (h4.out.below c7) (by have:=HG.out.tk;omega)).mono ?_;rintro e w3 ⟨p,rfl,i5,f6⟩;have f8:zc w w3:=c7.trans i5
   have H0:Hid (LR w ((w3.alloc (.cells #[ptrV p] 92)).alloc (.cells #[.slice (some ⟨w3.heap.size,0,none⟩) 1 1,.bool false,.int .i64 st] 91)) Y (w3.heap.size+1) w3.heap.size 1 m ch st 0 [p]):=by
    have hz:=f8.size;have e7:=c7.size;refine ⟨?_,(f8.alloc _).alloc _,by simpa using zw.nil⟩
    have:=Av.new (X:=fun b=>w.heap.size<=b) (Y:=Y) (st:=st) f6 (fun b hb _=>by
     rcases hb with hb | hb
     ·exact .inr hb
     ·exact .inl (by omega)) (fun b hb=>by omega) (fun b hb=>by have:=d8.out b hb;omega)
    simpa using this
   clear f6
   go_wp2_with fail
   generalize i4:(w3.alloc (.cells #[.pointer (some ⟨p,0,none⟩)] 92)).alloc (.cells #[.slice (some ⟨w3.heap.size,0,none⟩) 1 1,.bool false,.int .i64 st] 91)=w4;have H0:Hid (LR w w4 Y (w3.heap.size+1) w3.heap.size 1 m ch st 0 [p]):=by rw [<-i4];exact H0
   clear i4;generalize w3.heap.size+1=g at*;generalize w3.heap.size=gr0 at*;clear c0 c1 c2 c3 c4 c5 i5 f8 c7 f2 g0
   go_loopg [27] ch.length (fun gk v wr=>∃(k gr cap:Nat) (pt:List Nat),v=.int .i64 k/\k<=ch.length/\gk=ch.length - k/\Hid (LR w wr Y g gr cap m ch st k pt))
   case atStart=>exact ⟨0,gr0,1,[p],rfl,DR _,rfl,H0⟩
   clear H0
   case round=>
    obtain ⟨k,gr,cap,pt,rfl,hk,rfl,hR⟩:=hrel;have E:=hR.out.ext;have c9:=hR.out.rt;obtain ⟨p2,g6,e5,_⟩:=c9.row.last;dsimp only at g6 e5;have j4:(ch.take k).length=k:=by rw [Et];omega
    have g3:=hR.out.ch.len300 HG.out;rw [j4] at g3;have c6:Hid (∀W,zc wr W->Calls Tryz.prog 53 #[.pointer (some ⟨g,0,none⟩)] W fun e w'=>e=.returned (.pointer (some ⟨p2,0,none⟩))/\zG W w'):=fun W hE=>last_c (w':=W) (c9.ext hE) g6 (by dsimp only;omega)
    have a3:=zh e5;have rg0:∀W,zc wr W->W.cell? ⟨g,0,none⟩=some (.slice (some ⟨gr,0,none⟩) pt.length cap):=zc.rule (c9.blk.cell (k:=0) rfl);have k5:=AN c9.row.1;have k8:pt.length<=400:=by have:=c9.row.2.1;dsimp only at this;omega
    clear c9 g6 e5;rcases DZ k ch.length with a6 | hge
    ·obtain ⟨bc,oc,rfl,_,b3⟩:=Ae i8.out a6 a6;obtain ⟨n,hn⟩:=EH (ch[k]);rw [<-hn] at b3;have q0:=zc.rule b3;have HN:=zh hn;clear b3 hn
     go_wp2_with fail
     refine (c6.out wr (zc.refl _)).mono ?_;rintro e w5 ⟨rfl,e2⟩;have b6:zc wr w5:=e2.below _;clear e2
     go_wp2_with fail
     refine (Ci w5 (a3.out.ext b6) HG.out HL.out hR.out.ch).mono ?_;rintro e w6 ⟨v6,rfl,hM⟩;have a7:zc wr w6:=b6.trans hM.ext;have HM:=zh hM.ints;clear hM b6
     go_wp2_with fail
     refine (zt n w6 HM.out (by have:=CM HL.out (ch.take k);omega)).mono ?_;rintro e w7 ⟨rfl,rfl⟩;by_cases c8:n∈Bc m (ch.take k)
     ·rw [DF c8];have b0:=zh c8;clear c8;have a5:Hid (ch.take k++[n]=ch.take (k+1)):=by show _=_;rw [DJ a6,HN.out]
      go_wp2_with fail
      refine DT (S:=fun _=>True) zN trivial fun zH=>?_;have e1:zc wr w6.drew:=a7.drew;refine ze 0 zH ?_;refine ze 1 zH ?_;simp only [za,Dz];refine ze 2 zH ?_;refine ze 3 zH ?_;simp only [za,Dz];refine ze 5 zH ?_;refine ze 7 zH ?_;simp only [za,Dz];refine rdA [4,6] ?_;refine Ed rfl (fun K o=>?_) ?_
      ·skip
       have hx:=e1;go_simp;clear hx;refine EI o trivial fun zH=>?_;clear o K;try simp only [za,Dz]
       refine zC 6 fun K o=>?_
       skip
       go_simp;go_at_call 53;refine (c6.out _ e1).mono ?_;rintro e wa2 ⟨rfl,j2⟩;have f9:zc wr wa2:=e1.trans (j2.below _);go_simp;refine EI o trivial fun zH=>?_;clear o K;try simp only [za,Dz]
       refine zC 8 fun K o=>?_
       skip
       go_simp;go_at_call 92;refine (with_c _ (a3.out.ext f9) HG.out HL.out hR.out.ch b0.out).mono ?_;rintro e wa3 ⟨q,rfl,a8,hq⟩;have HQ:=zh (push_ok (g:=g) (gr:=gr) hq f9 hR.out.rt (fun b hb=>DE E.size hb));clear hq;have d9:zc wr wa3:=f9.trans a8;clear a8;go_simp;refine EI o trivial fun zH=>?_;clear o K;try simp only [za,Dz]
       refine zC 9 fun K o=>?_
       skip
       go_simp;refine EI o trivial fun zH=>?_;clear o K;try simp only [za,Dz]
       refine zC 10 fun K o=>?_
       skip
       have I:=hR.out.rt.ext d9;have D:=zh I;have a0:wa3.cell? ⟨g,0,none⟩=some (.slice (some ⟨gr,0,none⟩) pt.length cap):=I.blk.cell (k:=0) rfl;have a1:wa3.frozen? ⟨g,0,none⟩=false:=I.blk.frozen 0;clear I;refine step_append_lies (P:=Tryz.prog) _ (by rfl) _ _ 89 (by rfl) 0 92 i0 (.pointer none) 1 8 Tryz.underlying89 IF.out IZ0.out IZ1.out IZ2.out rfl (by decide) (.slice (some ⟨gr,0,none⟩) pt.length cap) pt.length _ (by rfl) (D.out.row.1.alloc _) ⟨wa3.heap.size,0,none⟩ 1 1 [ptrV q] (by rfl) rfl (cell_one_new _ _ _) (by simp [ptrV,Value.oneCell']) (by decide) (by unfold maxLen;omega) (by omega) (DR _) (wa3.heap.size+1) (by simp) ?_;intro g5 c5 w9 O hg hv _;obtain ⟨gr',cap',g7,r,L⟩:=D.out.push HQ.out (fun b hb=>DE E.size (DE d9.size hb)) (fun b hb=>Ee (d8.out b hb) (DE E.size d9.size)) O hg (by rcases hv with hv | hv;exact .inl hv.symm;exact .inr (congrArg some hv));have B:w9.heap[g]?=wa3.heap[g]?:=(hg.block g (by have:=zb D.out.blk;simp;omega) (fun e=>D.out.ne (by injection e))).trans (DV _ _ _ (zb D.out.blk));have e0:w9.cell? ⟨g,0,none⟩=some (.slice (some ⟨gr,0,none⟩) pt.length cap):=(DS B).trans a0;have e4:w9.frozen? ⟨g,0,none⟩=false:=(Eb (a:=⟨g,0,none⟩) B).trans a1;have a9:Hid (zc w (w9.setCell ⟨g,0,none⟩ (.slice (some ⟨g5,0,none⟩) (pt.length+1) c5))):=Below.trans (E.trans d9) (L.below (DE E.size d9.size) (fun b hb=>hb));have V:=zh r;clear O hg hv r L B a0 a1;refine EI o trivial fun zH=>?_;clear o K;try simp only [za,Dz]
       refine zC 11 fun K o=>?_
       skip
       go_simp;refine EI o trivial fun zH=>?_;clear o K;try simp only [za,Dz]
       refine zC 12 fun K o=>?_
       skip
       go_simp;refine EI o trivial fun zH=>?_;clear o K;try simp only [za,Dz]
       refine zC 13 fun K o=>?_
       skip
       go_simp;refine EI o trivial fun zH=>?_;clear o K;try simp only [za,Dz]
       refine Eg (by kernel_rfl) ?_ _
       go_wp2_with fail
       go_roundg (ch.length - (k+1))
       case measure=>omega
       case rel=>exact ⟨k+1,_,_,_,by go_num,a6,rfl,⟨by have:=V.out;rwa [a5.out] at this,a9.out,by rw [<-a5.out];exact .snoc hR.out.ch b0.out⟩⟩
      refine Ed rfl (fun K o=>?_) .nil
      skip
      go_simp;go_at_call 53;refine (c6.out _ e1).mono ?_;rintro e wa9 ⟨rfl,b4⟩;have b1:zc wr wa9:=e1.trans (b4.below _);go_simp;refine EI o trivial fun zH=>?_;clear o K;try simp only [za,Dz]
      refine rdA [4,8] ?_;refine Ed rfl (fun K o=>?_) ?_
      ·skip
       have hx:=b1;go_simp;clear hx;refine EI o trivial fun zH=>?_;clear o K;try simp only [za,Dz]
       refine zC 8 fun K o=>?_
       skip
       go_simp;go_at_call 92;refine (with_c _ (a3.out.ext b1) HG.out HL.out hR.out.ch b0.out).mono ?_;rintro e wa11 ⟨q,rfl,a8,hq⟩;have HQ:=zh (push_ok (g:=g) (gr:=gr) hq b1 hR.out.rt (fun b hb=>DE E.size hb));clear hq;have a4:zc wr wa11:=b1.trans a8;clear a8;go_simp;refine EI o trivial fun zH=>?_;clear o K;try simp only [za,Dz]
       refine zC 9 fun K o=>?_
       skip
       go_simp;refine EI o trivial fun zH=>?_;clear o K;try simp only [za,Dz]
       refine zC 10 fun K o=>?_
       skip
       have I:=hR.out.rt.ext a4;have D:=zh I;have a0:wa11.cell? ⟨g,0,none⟩=some (.slice (some ⟨gr,0,none⟩) pt.length cap):=I.blk.cell (k:=0) rfl;have a1:wa11.frozen? ⟨g,0,none⟩=false:=I.blk.frozen 0;clear I;refine step_append_lies (P:=Tryz.prog) _ (by rfl) _ _ 89 (by rfl) 0 92 i0 (.pointer none) 1 8 Tryz.underlying89 IF.out IZ0.out IZ1.out IZ2.out rfl (by decide) (.slice (some ⟨gr,0,none⟩) pt.length cap) pt.length _ (by rfl) (D.out.row.1.alloc _) ⟨wa11.heap.size,0,none⟩ 1 1 [ptrV q] (by rfl) rfl (cell_one_new _ _ _) (by simp [ptrV,Value.oneCell']) (by decide) (by unfold maxLen;omega) (by omega) (DR _) (wa11.heap.size+1) (by simp) ?_;intro g5 c5 w9 O hg hv _;obtain ⟨gr',cap',g7,r,L⟩:=D.out.push HQ.out (fun b hb=>DE E.size (DE a4.size hb)) (fun b hb=>Ee (d8.out b hb) (DE E.size a4.size)) O hg (by rcases hv with hv | hv;exact .inl hv.symm;exact .inr (congrArg some hv));have B:w9.heap[g]?=wa11.heap[g]?:=(hg.block g (by have:=zb D.out.blk;simp;omega) (fun e=>D.out.ne (by injection e))).trans (DV _ _ _ (zb D.out.blk));have e0:w9.cell? ⟨g,0,none⟩=some (.slice (some ⟨gr,0,none⟩) pt.length cap):=(DS B).trans a0;have e4:w9.frozen? ⟨g,0,none⟩=false:=(Eb (a:=⟨g,0,none⟩) B).trans a1;have a9:Hid (zc w (w9.setCell ⟨g,0,none⟩ (.slice (some ⟨g5,0,none⟩) (pt.length+1) c5))):=Below.trans (E.trans a4) (L.below (DE E.size a4.size) (fun b hb=>hb));have V:=zh r;clear O hg hv r L B a0 a1;refine EI o trivial fun zH=>?_;clear o K;try simp only [za,Dz]
       refine zC 11 fun K o=>?_
       skip
       go_simp;refine EI o trivial fun zH=>?_;clear o K;try simp only [za,Dz]
       refine zC 12 fun K o=>?_
       skip
       go_simp;refine EI o trivial fun zH=>?_;clear o K;try simp only [za,Dz]
       refine zC 13 fun K o=>?_
       skip
       go_simp;refine EI o trivial fun zH=>?_;clear o K;try simp only [za,Dz]
       refine Eg (by kernel_rfl) ?_ _
       go_wp2_with fail
       go_roundg (ch.length - (k+1))
       case measure=>omega
       case rel=>exact ⟨k+1,_,_,_,by go_num,a6,rfl,⟨by have:=V.out;rwa [a5.out] at this,a9.out,by rw [<-a5.out];exact .snoc hR.out.ch b0.out⟩⟩
      refine Ed rfl (fun K o=>?_) .nil
      skip
      go_simp;go_at_call 92;refine (with_c _ (a3.out.ext b1) HG.out HL.out hR.out.ch b0.out).mono ?_;rintro e wa17 ⟨q,rfl,a8,hq⟩;have HQ:=zh (push_ok (g:=g) (gr:=gr) hq b1 hR.out.rt (fun b hb=>DE E.size hb));clear hq;have J:zc wr wa17:=b1.trans a8;clear a8;go_simp;refine EI o trivial fun zH=>?_;clear o K;try simp only [za,Dz]
      refine rdA [4,9] ?_;refine Ed rfl (fun K o=>?_) ?_
      ·skip
       have hx:=J;go_simp;clear hx;refine EI o trivial fun zH=>?_;clear o K;try simp only [za,Dz]
       refine zC 9 fun K o=>?_
       skip
       go_simp;refine EI o trivial fun zH=>?_;clear o K;try simp only [za,Dz]
       refine zC 10 fun K o=>?_
       skip
       have I:=hR.out.rt.ext J;have D:=zh I;have a0:wa17.cell? ⟨g,0,none⟩=some (.slice (some ⟨gr,0,none⟩) pt.length cap):=I.blk.cell (k:=0) rfl;have a1:wa17.frozen? ⟨g,0,none⟩=false:=I.blk.frozen 0;clear I;refine step_append_lies (P:=Tryz.prog) _ (by rfl) _ _ 89 (by rfl) 0 92 i0 (.pointer none) 1 8 Tryz.underlying89 IF.out IZ0.out IZ1.out IZ2.out rfl (by decide) (.slice (some ⟨gr,0,none⟩) pt.length cap) pt.length _ (by rfl) (D.out.row.1.alloc _) ⟨wa17.heap.size,0,none⟩ 1 1 [ptrV q] (by rfl) rfl (cell_one_new _ _ _) (by simp [ptrV,Value.oneCell']) (by decide) (by unfold maxLen;omega) (by omega) (DR _) (wa17.heap.size+1) (by simp) ?_;intro g5 c5 w9 O hg hv _;obtain ⟨gr',cap',g7,r,L⟩:=D.out.push HQ.out (fun b hb=>DE E.size (DE J.size hb)) (fun b hb=>Ee (d8.out b hb) (DE E.size J.size)) O hg (by rcases hv with hv | hv;exact .inl hv.symm;exact .inr (congrArg some hv));have B:w9.heap[g]?=wa17.heap[g]?:=(hg.block g (by have:=zb D.out.blk;simp;omega) (fun e=>D.out.ne (by injection e))).trans (DV _ _ _ (zb D.out.blk));have e0:w9.cell? ⟨g,0,none⟩=some (.slice (some ⟨gr,0,none⟩) pt.length cap):=(DS B).trans a0;have e4:w9.frozen? ⟨g,0,none⟩=false:=(Eb (a:=⟨g,0,none⟩) B).trans a1;have a9:Hid (zc w (w9.setCell ⟨g,0,none⟩ (.slice (some ⟨g5,0,none⟩) (pt.length+1) c5))):=Below.trans (E.trans J) (L.below (DE E.size J.size) (fun b hb=>hb));have V:=zh r;clear O hg hv r L B a0 a1;refine EI o trivial fun zH=>?_;clear o K;try simp only [za,Dz]
       refine zC 11 fun K o=>?_
       skip
       go_simp;refine EI o trivial fun zH=>?_;clear o K;try simp only [za,Dz]
       refine zC 12 fun K o=>?_
       skip
       go_simp;refine EI o trivial fun zH=>?_;clear o K;try simp only [za,Dz]
       refine zC 13 fun K o=>?_
       skip
       go_simp;refine EI o trivial fun zH=>?_;clear o K;try simp only [za,Dz]
       refine Eg (by kernel_rfl) ?_ _
       go_wp2_with fail
       go_roundg (ch.length - (k+1))
       case measure=>omega
       case rel=>exact ⟨k+1,_,_,_,by go_num,a6,rfl,⟨by have:=V.out;rwa [a5.out] at this,a9.out,by rw [<-a5.out];exact .snoc hR.out.ch b0.out⟩⟩
      refine Ed rfl (fun K o=>?_) .nil
      skip
      go_simp;refine EI o trivial fun zH=>?_;clear o K;try simp only [za,Dz]
      refine zC 4 fun K o=>?_
      skip
      have hx:=(J.alloc (.cells #[.pointer (some ⟨q,0,none⟩)] 92));go_simp;clear hx;refine EI o trivial fun zH=>?_;clear o K;try simp only [za,Dz]
      refine zC 10 fun K o=>?_
      skip
      have I:=hR.out.rt.ext J;have D:=zh I;have a0:wa17.cell? ⟨g,0,none⟩=some (.slice (some ⟨gr,0,none⟩) pt.length cap):=I.blk.cell (k:=0) rfl;have a1:wa17.frozen? ⟨g,0,none⟩=false:=I.blk.frozen 0;clear I;refine step_append_lies (P:=Tryz.prog) _ (by rfl) _ _ 89 (by rfl) 0 92 i0 (.pointer none) 1 8 Tryz.underlying89 IF.out IZ0.out IZ1.out IZ2.out rfl (by decide) (.slice (some ⟨gr,0,none⟩) pt.length cap) pt.length _ (by rfl) (D.out.row.1.alloc _) ⟨wa17.heap.size,0,none⟩ 1 1 [ptrV q] (by rfl) rfl (cell_one_new _ _ _) (by simp [ptrV,Value.oneCell']) (by decide) (by unfold maxLen;omega) (by omega) (DR _) (wa17.heap.size+1) (by simp) ?_;intro g5 c5 w9 O hg hv _;obtain ⟨gr',cap',g7,r,L⟩:=D.out.push HQ.out (fun b hb=>DE E.size (DE J.size hb)) (fun b hb=>Ee (d8.out b hb) (DE E.size J.size)) O hg (by rcases hv with hv | hv;exact .inl hv.symm;exact .inr (congrArg some hv));have B:w9.heap[g]?=wa17.heap[g]?:=(hg.block g (by have:=zb D.out.blk;simp;omega) (fun e=>D.out.ne (by injection e))).trans (DV _ _ _ (zb D.out.blk));have e0:w9.cell? ⟨g,0,none⟩=some (.slice (some ⟨gr,0,none⟩) pt.length cap):=(DS B).trans a0;have e4:w9.frozen? ⟨g,0,none⟩=false:=(Eb (a:=⟨g,0,none⟩) B).trans a1;have a9:Hid (zc w (w9.setCell ⟨g,0,none⟩ (.slice (some ⟨g5,0,none⟩) (pt.length+1) c5))):=Below.trans (E.trans J) (L.below (DE E.size J.size) (fun b hb=>hb));have V:=zh r;clear O hg hv r L B a0 a1;refine EI o trivial fun zH=>?_;clear o K;try simp only [za,Dz]
      refine zC 11 fun K o=>?_
      skip
      go_simp;refine EI o trivial fun zH=>?_;clear o K;try simp only [za,Dz]
      refine zC 12 fun K o=>?_
      skip
      go_simp;refine EI o trivial fun zH=>?_;clear o K;try simp only [za,Dz]
      refine zC 13 fun K o=>?_
      skip
      go_simp;refine EI o trivial fun zH=>?_;clear o K;try simp only [za,Dz]
      refine Eg (by kernel_rfl) ?_ _
      go_wp2_with fail
      go_roundg (ch.length - (k+1))
      case measure=>omega
      case rel=>exact ⟨k+1,_,_,_,by go_num,a6,rfl,⟨by have:=V.out;rwa [a5.out] at this,a9.out,by rw [<-a5.out];exact .snoc hR.out.ch b0.out⟩⟩
     ·rw [DG c8]
      have U:loadE m ch st=51:=by
       rw [d6.out]
       have:isChB m ch=false:=by
        rw [Bool.eq_false_iff];intro h;have h1:=(Bj.1 h).at a6;rw [<-HN.out] at h1;exact c8 h1
       rw [this];rfl
      have M:Bo w Y m ch st (.returned (.tuple #[.pointer none,.int .i64 51])) w6:=⟨.pointer none,by rw [U],E.trans a7,.inl ⟨by rw [U];decide,rfl⟩⟩;have G:=zh M;clear M U c8
      go_wp2_with fail
      go_ret2
      exact G.out
    ·have j3:k=ch.length:=by omega
     subst j3;have e9:Hid (ch.take ch.length=ch):=DN;have b9:Hid (zw m ch):=by have:=hR.out.ch;rwa [e9.out] at this
     have g1:isChB m ch=true:=Bj.2 b9.out;rw [g1] at d6;have l0:=zh g1;clear g1;rw [e9.out] at a3;by_cases Q:ch=[]
     ·have f3:decide ((0:Int)<(ch.length:Int))=false:=by rw [Q];rfl
      have e7:((ch.length:Int)==0)=true:=by rw [Q];rfl
      have j8:decide (0<ch.length)=false:=by rw [Q];rfl
      have j9:decide (ch.length=0)=true:=by rw [Q];rfl
      have f4:=zh Q;have d7:Hid (loadE m ch st=0):=by show _=_;rw [d6.out,DF Q];rfl
      clear Q
      go_wp2_with fail
      refine (c6.out wr (zc.refl _)).mono ?_;rintro e w8 ⟨rfl,e3⟩;have b7:zc wr w8:=zc.trans (zc.refl _) (e3.below _);clear e3
      go_wp2_with fail
      refine (CW w8 (a3.out.ext b7) HG.out HL.out b9.out).mono ?_;rintro e w9 ⟨rfl,b4⟩;have e6:zc wr w9:=b7.trans (b4.below _);clear b4 b7;obtain ⟨cb,b2⟩:=EH (AR m ch);rw [<-b2];have b8:=zh b2;clear b2;have r:=hR.out.rt.ext e6;have e0:w9.cell? ⟨g,1,none⟩=some (.bool false):=r.blk.cell (k:=1) rfl;have e4:w9.frozen? ⟨g,1,none⟩=false:=r.blk.frozen 1;have G:Hid (∀d,d=(loadS m ch st).done->Bo w Y m ch st (.returned (.tuple #[.pointer (some ⟨g,0,none⟩),.int .i64 0])) (w9.setCell ⟨g,1,none⟩ (.bool d))):=fun d hd=>load_fin r (E.trans e6) e9.out b9.out HG.out d7.out hd
      clear r
      cases cb with
      | true=>
       go_wp2_with fail
       go_ret2
       exact G.out true (by unfold loadS;rw [<-b8.out];rfl)
      | false=>
       by_cases f0:0<st
       ·have j6:decide (0<st)=true:=DF f0
        go_wp2_with fail
        go_ret2
        exact G.out true (by unfold loadS;rw [<-b8.out,f4.out];simp [f0])
       ·have j6:decide (0<st)=false:=DG f0
        go_wp2_with fail
        go_ret2
        exact G.out false (by unfold loadS;rw [<-b8.out,f4.out];simp [f0])
     ·have i2:0<ch.length:=List.length_pos_iff.2 Q;have f3:decide ((0:Int)<(ch.length:Int))=true:=DF (by omega);have e7:((ch.length:Int)==0)=false:=by rw [DP];omega
      have j8:decide (0<ch.length)=true:=DF i2;have j9:decide (ch.length=0)=false:=DG (by omega);have f7:=zh Q;clear Q
      go_wp2_with fail
      refine (c6.out wr (zc.refl _)).mono ?_;rintro e w5 ⟨rfl,e2⟩;have b6:zc wr w5:=e2.below _;clear e2
      go_wp2_with fail
      refine (open_c w5 (a3.out.ext b6) HG.out HL.out b9.out).mono ?_;rintro e w6 ⟨rfl,a7⟩;have a7:zc wr w6:=b6.trans a7;clear b6;obtain ⟨ob,g4⟩:=EH (Bu m ch);rw [<-g4];have h5:=zh g4;clear g4
      cases ob with
      | false=>
       have U:loadE m ch st=51:=by rw [d6.out,DG f7.out,<-h5.out];rfl
       have M:Bo w Y m ch st (.returned (.tuple #[.pointer none,.int .i64 51])) w6:=⟨.pointer none,by rw [U],E.trans a7,.inl ⟨by rw [U];decide,rfl⟩⟩;have G:=zh M;clear M U
       go_wp2_with fail
       go_ret2
       exact G.out
      | true=>
       have d7:Hid (loadE m ch st=0):=by show _=_;rw [d6.out,DG f7.out,<-h5.out];rfl
       go_wp2_with fail
       refine (c6.out w6 a7).mono ?_;rintro e w8 ⟨rfl,e3⟩;have b7:zc wr w8:=zc.trans a7 (e3.below _);clear e3
       go_wp2_with fail
       refine (CW w8 (a3.out.ext b7) HG.out HL.out b9.out).mono ?_;rintro e w9 ⟨rfl,b4⟩;have e6:zc wr w9:=b7.trans (b4.below _);clear b4 b7;obtain ⟨cb,b2⟩:=EH (AR m ch);rw [<-b2];have b8:=zh b2;clear b2;have r:=hR.out.rt.ext e6;have e0:w9.cell? ⟨g,1,none⟩=some (.bool false):=r.blk.cell (k:=1) rfl;have e4:w9.frozen? ⟨g,1,none⟩=false:=r.blk.frozen 1;have G:Hid (∀d,d=(loadS m ch st).done->Bo w Y m ch st (.returned (.tuple #[.pointer (some ⟨g,0,none⟩),.int .i64 0])) (w9.setCell ⟨g,1,none⟩ (.bool d))):=fun d hd=>load_fin r (E.trans e6) e9.out b9.out HG.out d7.out hd
       clear r
       cases cb with
       | true=>
        go_wp2_with fail
        go_ret2
        exact G.out true (by unfold loadS;rw [<-b8.out];rfl)
       | false=>
        go_wp2_with fail
        go_ret2
        exact G.out false (by unfold loadS;rw [<-b8.out];simp [f7.out])
end
end Go.Proofs.YtcnaogdgjkpkmaaGreatDoor
