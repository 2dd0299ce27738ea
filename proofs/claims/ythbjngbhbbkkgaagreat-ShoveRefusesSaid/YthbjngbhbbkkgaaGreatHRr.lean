import Derived.Test.YthbjngbhbbkkgaaGreatHRo
import Derived.Test.YthbjngbhbbkkgaaGreatHRq
set_option linter.unusedVariables false
set_option linter.unusedSimpArgs false
set_option maxRecDepth 100000
set_option maxHeartbeats 16000000
namespace Go.Proofs.YthbjngbhbbkkgaaGreat
variable {d e:Int} {p:Int×Int} {fr:Int->Bool} {fixed:List (List Int)} {c ch l tg:List Int} {m:MZ} {k:Nat} {okf:Nat->Prop} {vf:Value}
section
open Go.RowKit
attribute [local go_sem ↓] Go.wp_at_zero Go.wp_at_succ
structure UI (w wr:World) (gs gb:Nat) (s:List Int):Prop where
 ext:zb w wr
 lo:w.heap.size<=gs
 lt:gs<gb
 set:zF wr gs s
 cb:wr.cell? ⟨gb,0,none⟩=some (.map (some gs))
section
variable {w wr w':World} {gs gb:Nat} {s:List Int} {x:Int}
theorem UI.add (h:UI w wr gs gb s) (B:zF w' gs (ins s x)) (o:wr.grownBy w' (some gs)):UI w w' gs gb (ins s x):=
 ⟨h.ext.grown o h.ext.size (fun k z=>by injection z with z;have:=h.lo;omega),h.lo,h.lt,B,
  (EV (w:=wr) (a:=⟨gb,0,none⟩) (o.block gb (zo h.cb) (fun e=>by injection e with e;have:=h.lt;omega))).trans h.cb⟩
theorem UI.new (w:World):UI w ((w.alloc (.map #[] 0)).alloc (.cells #[.map (some w.heap.size)] 78)) w.heap.size (w.heap.size+1) []:=by
 have o:zk ((w.alloc (.map #[] 0)).alloc (.cells #[.map (some w.heap.size)] 78)) (w.heap.size+1) 78 #[.map (some w.heap.size)]:=zk.new _ _ _ (by simp);have z:zb w ((w.alloc (.map #[] 0)).alloc (.cells #[.map (some w.heap.size)] 78)):=((zb.refl w).alloc _).alloc _;exact ⟨z,EG _,Nat.lt_succ_self _,(zF.new w).below ((zb.refl _).alloc _),o.cell (k:=0) rfl⟩
end
def addS (fr:Int->Bool) (d:Int) (F:List (Int×Int)) (x:Int):List (Int×Int):=if ((F.lookup x).isNone && fr x)=true then F++[(x,d)] else F
theorem CR (fr:Int->Bool) (d:Int):∀(l:List Int) (F:List (Int×Int)),zt fr d l F=l.foldl (addS fr d) F
 | [],F=>rfl
 | x :: l,F=>by
  unfold zt;rw [List.foldl_cons,CR fr d l];rfl
theorem Ef {F:List (Int×Int)} (o:k<l.length):zt fr d (l.take (k+1)) F=addS fr d (zt fr d (l.take k) F) l[k]:=by
 rw [CR,CR,EN o,List.foldl_append];rfl
theorem addS_new {x:Int} {F:List (Int×Int)} (h:F.lookup x=none) (o:fr x=true):addS fr d F x=F++[(x,d)]:=by unfold addS;rw [h,o];rfl
theorem addS_old {x:Int} {F:List (Int×Int)} (h:F.lookup x=some e):addS fr d F x=F:=by unfold addS;rw [h];rfl
theorem addS_not {x:Int} {F:List (Int×Int)} (o:fr x=false):addS fr d F x=F:=by unfold addS;rw [o];simp
structure PI (w wr:World) (gf:Nat) (F:List (Int×Int)) (v:Value) (todo:List Int):Prop where
 ext:zb w wr
 lo:w.heap.size<=gf
 far:BS wr gf F
 que:Que wr (gf+1) v todo
section
variable {w wr w':World} {gf:Nat} {F F':List (Int×Int)} {v v':Value} {todo todo':List Int}
theorem PI.more (h:PI w wr gf F v todo) (o:zb wr w'):PI w w' gf F v todo:=⟨h.ext.trans o,h.lo,h.far.below o,h.que.more o⟩
theorem PI.put (h:PI w wr gf F v todo) (B:BS w' gf F') (z:wr.grownBy w' (some gf)):PI w w' gf F' v todo:=
 ⟨h.ext.grown z h.ext.size (fun k o=>by injection o with o;have:=h.lo;omega),h.lo,B,h.que.kept z (fun k o e=>by injection e with e;have:=(h.que.ge o).1;omega)⟩
theorem PI.app (h:PI w wr gf F v todo) (B:Que w' (gf+1) v' todo') (o:Hid (wr.grownBy w' v.ownBlock)):PI w w' gf F v' todo':=
 ⟨h.ext.grown o.out h.ext.size (fun k z=>by have:=(h.que.ge z).1;have:=h.lo;omega),h.lo,
  (o.out.block gf (zd h.far) (fun e=>by have:=(h.que.ge e.symm).1;omega)).trans h.far,B⟩
theorem PI.que2 (h:PI w wr gf F v todo) (o:Que wr (gf+1) v' todo'):PI w wr gf F v' todo':=⟨h.ext,h.lo,h.far,o⟩
theorem PI.lt (h:PI w wr gf F v todo):gf<wr.heap.size:=zd h.far
end
structure NL (wk w2 wi:World) (v:Value):Prop where
 same:zW (fun b=>wk.heap.size<=b/\b<w2.heap.size) w2 wi
 ob:∀k,v.ownBlock=some k->k<wk.heap.size\/w2.heap.size<=k
 sz:w2.heap.size<=wi.heap.size
section
variable {wk w2 wi w':World} {v v':Value} {gf:Nat}
theorem NL.start (z:∀k,v.ownBlock=some k->k<wk.heap.size):NL wk w2 w2 v:=⟨zW.refl _ _,fun k o=>.inl (z k o),EG _⟩
theorem NL.more (h:NL wk w2 wi v) (z:zb wi w'):NL wk w2 w' v:=⟨fun b B o=>(z.block b (Fh o h.sz)).trans (h.same b B o),h.ob,EI h.sz z.size⟩
theorem NL.put (h:NL wk w2 wi v) (B:wi.grownBy w' (some gf)) (D:gf<wk.heap.size):NL wk w2 w' v:=
 ⟨fun b z o=>(B.block b (Fh o h.sz) (fun e=>by injection e with e;have:=z.1;omega)).trans (h.same b z o),h.ob,EI h.sz B.size⟩
theorem NL.app (h:NL wk w2 wi v) (D:Hid (wi.grownBy w' v.ownBlock)) (E:Hid (v'.ownBlock=v.ownBlock\/v'.ownBlock=some wi.heap.size)):NL wk w2 w' v':=
 ⟨fun b z o=>(D.out.block b (Fh o h.sz) (fun e=>by have h1:=h.ob b e.symm;have:=z.1;have:=z.2;omega)).trans (h.same b z o),
  fun k B=>by
   rcases E.out with e | e
   ·exact h.ob k (e ▸ B)
   ·rw [e] at B;have:k=wi.heap.size:=by simpa using B.symm
    have:=h.sz;omega,EI h.sz D.out.size⟩
end
theorem lookup_app {F G:List (Int×Int)} {x:Int} (h:F.lookup x=some d):(F++G).lookup x=some d:=by
 induction F with
 | nil=>cases h
 | cons a F ih=>
  obtain ⟨y,e⟩:=a;rw [List.cons_append,List.lookup_cons] at*
  split at h
  ·exact h
  ·exact ih h
theorem addAll_lookup {x:Int} {F:List (Int×Int)} (h:F.lookup x=some e):(zt fr d l F).lookup x=some e:=by
 obtain ⟨G,h1,-⟩:=zL fr d l F;rw [h1];exact lookup_app h
theorem DN.part {F:List (Int×Int)} (g:zC m) (h:DN m fr tg k F) (hp:F[k]?=some p) (j:Nat):(zt fr (p.2+1) ((zl m p.1).take j) F).length<=300:=by
 obtain ⟨G,h1,h2,h3,-⟩:=zL fr (p.2+1) ((zl m p.1).take j) F;rw [h1];have z:=h.rg _ (List.mem_of_getElem? hp)
 have o:=Bo (h3 h.nd) m.n (fun x B=>by
  obtain ⟨q,hq,rfl⟩:=FH.1 B;rcases Fx.1 hq with hq | hq
  ·exact (h.rg q hq).1
  ·exact An g.dim z.1.1 z.1.2 (List.mem_of_mem_take (h2 q hq).2.1))
 have D:=g.dim.n1;rw [Fr] at o;unfold MZ.n at o;omega
theorem start_len (g:zC m) (o:∀x∈tg,0<=x/\x<m.n) (j:Nat):(zt fr 0 (tg.take j) []).length<=300:=by
 have:=(DN.start (m:=m) (fr:=fr) (tg:=tg.take j) (fun x z=>o x (List.mem_of_mem_take z))).len;have B:=g.dim.n1;unfold MZ.n at this;omega
theorem bfs_end {F:List (Int×Int)}:∀f,bfs m fr f F.length F=F
 | 0=>rfl
 | f+1=>by
  unfold bfs;rw [EZ (EG _)]
theorem bfs_next {F:List (Int×Int)} {f:Nat} (h:F[k]?=some p):bfs m fr (f+1) k F=bfs m fr f (k+1) (zt fr (p.2+1) (zl m p.1) F):=by
 conv=>lhs;unfold bfs
 rw [h]
theorem path_calls {okm:Nat->Prop} {v:Value} (t:Int) (w:World) (hm:zw w okm v m) (hl:Lens m) (hf:zv w okf vf fixed) (s2:fixed.length<=20000000000000) (j6:∀x∈fixed,x.length<=20000000000000):
  Calls Tryz.prog 18 #[v,.int .i64 t,vf] w fun e w'=>∃v',e=.returned (.tuple #[v',.bool (BM m t fixed).isSome])/\Mk w w' v' ((BM m t fixed).getD []):=by
 have f1:=zh hm;have HL:=zh hl;have q7:=zh hf;have m3:=zh j6;obtain ⟨Af,cf,Au,cu,At,ct,rfl,k6,-,k8⟩:=hm.parts;have m7:=zh k6;have m8:=zh k8;obtain ⟨vfs,⟨A,c,rfl,s0,hr⟩,j5⟩:=hf;have HR:=zh hr;have m1:=zh j5;have p9:=hl.ts;clear hm hl hr j5 k6 k8 j6;have s7:=@run_makeMap Tryz.prog;have s6:∀(fn:Fn) (first cap:Array Value) (w:World),(Instr.makeFunc fn first cap).run Tryz.prog w=.ok (.func fn first cap) w:=fun _ _ _ _=>rfl
 have o0:∀(a:Array Value) (w:World),(callFunc 48 a).run Tryz.prog w=.ok (.enter 48 a) w:=fun a w=>Ar Tryz.func48 (by kernel_rfl) (by kernel_rfl) a w
 go_enter Tryz.func18,Tryz.ntmps18
 go_wp2_with fail
 obtain ⟨f8,r0,r1,r2,r3,r4,r5⟩:=box6 w (.int .i64 m.w) (.int .i64 m.h) (.int .i64 m.l) (.slice Af m.free.length cf) (.slice Au m.up.length cu) (.slice At m.tasks.length ct);have c7:(w.alloc (.cells #[.int .i64 m.w,.int .i64 m.h,.int .i64 m.l,.slice Af m.free.length cf,.slice Au m.up.length cu,.slice At m.tasks.length ct] 32)).heap.size=w.heap.size+1:=by simp
 generalize w.alloc _=w1 at f8 r0 r1 r2 r3 r4 r5 c7⊢;obtain ⟨b1,q0⟩:=box1 w1 (.int .i64 t) 3;generalize w1.alloc _=w2 at b1 q0⊢;obtain ⟨gm,j8⟩:=zad w.heap.size;rw [<-j8] at r0 r1 r2 r3 r4 r5 c7⊢;obtain ⟨gt,j9⟩:=zad (gm+1);rw [<-j9] at c7⊢;rw [c7] at q0;clear j8 j9 c7;have T:=zh b1;have a9:=zh (f8.trans b1);have r0:=fun W h=>r0 W (T.out.trans h)
 have r1:=fun W h=>r1 W (T.out.trans h)
 have r2:=fun W h=>r2 W (T.out.trans h)
 have r3:=fun W h=>r3 W (T.out.trans h)
 have r4:=fun W h=>r4 W (T.out.trans h)
 have r5:=fun W h=>r5 W (T.out.trans h)
 clear f8 b1;have U:zb w2 w2:=zb.refl w2
 go_wp2_with fail
 refine (Ek t w2 (f1.out.below a9.out) HL.out).mono ?_;rintro e w3 ⟨rfl,f4⟩;clear U;have U:zb w2 w3:=f4;have d4:=zh (a9.out.trans f4);clear f4;by_cases hk:AM m t=true
 case neg=>
  have o3:AM m t=false:=by simpa using hk
  have hp:BM m t fixed=none:=by unfold BM;rw [if_neg hk]
  have HP:=zh hp;clear hk hp;rw [o3];go_wp2
  go_ret2
  rw [HP.out];exact ⟨_,rfl,Mk.nil' d4.out⟩
 rw [hk];have HP:Hid (BM m t fixed=CE m (farP m t.toNat fixed) (m.tasks.getD t.toNat ([],[])).1):=by show _=_;unfold BM;rw [if_pos hk]
 obtain ⟨f9,s8,s9⟩:=AX.1 hk;clear hk;have HC:=zh f9;clear f9;have G:=zh (zC.of HC.out);obtain ⟨t,rfl⟩:∃tn:Nat,t=(tn:Int):=⟨t.toNat,by omega⟩;rw [Fy] at HP;have c8:t<m.tasks.length:=by omega
 have l4:t<m.free.length:=by rw [G.out.fl];exact c8
 obtain ⟨bt,offt,sn,u1,u2,rfl,_,j3,d9,e0,k1,k2⟩:=AJ (m8.out.below a9.out) c8;have b9:m.tasks.getD t ([],[])=m.tasks[t]:=zgd c8
 have h6:=G.out.tn _ (EH c8);have e8:=HL.out.tl _ (EH c8);rw [b9] at HP;obtain ⟨tk,h5⟩:=zad (m.tasks[t]);rw [<-h5] at k1 k2 h6 e8 HP;have i5:Hid (tk=m.tasks.getD t ([],[])):=by show _=_;rw [b9,h5]
 obtain ⟨A1,c1,rfl,n9,k9⟩:=k1;obtain ⟨A2,c2,rfl,r7,l0⟩:=k2;have m4:Hid (zj w2 okm (.slice A1 tk.1.length c1) tk.1):=⟨A1,c1,rfl,n9,k9⟩;have m5:=zh l0;have rt1:=zb.rule d9;have rt2:=zb.rule e0;have f2:=zh h6;clear j3 d9 e0 k9 l0 h6 h5 b9;obtain ⟨p1,p2⟩:=e8
 go_wp2_with fail
 have b6:=zh (UI.new w3);generalize ((w3.alloc (.map #[] 0)).alloc (.cells #[.map (some w3.heap.size)] 78))=wu at b6⊢;obtain ⟨gs,g3⟩:=zad w3.heap.size;rw [<-g3] at b6;rw [<-g3];obtain ⟨gb,Q⟩:=zad (gs+1);rw [<-Q] at b6;rw [<-Q];clear g3 Q;have i6:Hid (zb w2 w3):=U;clear U;go_loopw [32] (fun i wr=>∃k s,k<=fixed.length/\i=.int .i64 (k:Nat)/\Hid (UI w3 wr gs gb s)/\Hid (∀x,x∈s↔x∈(fixed.take k).flatten)) (fun i _=>fixed.length - (intOf i).toNat)
 case atStart=>exact ⟨0,[],EU _,rfl,b6,by simp [Hid]⟩
 clear b6
 case round=>
  obtain ⟨k,s,hk,rfl,hU,O⟩:=hrel;obtain ⟨wk,rfl⟩:∃wk:World,wk=wr:=⟨_,rfl⟩;by_cases E:k<fixed.length
  ·obtain ⟨b,off,u,rfl,_,o,hu⟩:=Ai HR.out m1.out E E;have z:wk.cell? ⟨b,off+k,none⟩=some u:=(d4.out.trans hU.out.ext).cell o;have p3:=m3.out _ (EH E)
   have e4:Hid (∀x,x∈(fixed.take (k+1)).flatten↔x∈(fixed.take k).flatten\/x∈fixed[k]):=fun x=>by
    rw [EN E,List.flatten_append];simp
   obtain ⟨l,hl⟩:=zad (fixed[k]);rw [<-hl] at hu p3 e4;clear hl o;obtain ⟨Al,cl,rfl,s1,l2⟩:=hu;have n0:=zh l2;clear l2
   go_wp2_with fail
   go_loopw [38] (fun i wi=>∃j s',j<=l.length/\i=.int .i64 (j:Nat)/\Hid (UI w3 wi gs gb s')/\Hid (∀x,x∈s'↔x∈(fixed.take k).flatten\/x∈l.take j)) (fun i _=>l.length - (intOf i).toNat)
   case atStart=>exact ⟨0,s,EU _,rfl,hU,fun x=>by rw [O.out];simp⟩
   clear hU O z
   case round=>
    obtain ⟨j,s',hj,rfl,hU,O⟩:=hrel;obtain ⟨wi,rfl⟩:∃wi:World,wi=wr:=⟨_,rfl⟩;by_cases a2:j<l.length
    ·obtain ⟨b2,off2,rfl,_,o⟩:=zy n0.out a2 a2;have z:wi.cell? ⟨b2,off2+j,none⟩=some (.int .i64 l[j]):=(d4.out.trans hU.out.ext).cell o;have e7:Hid (∀x,x∈l.take (j+1)↔x∈l.take j\/x=l[j]):=Aa a2;obtain ⟨y,hy⟩:=zad (l[j]);rw [<-hy] at z e7;clear hy o;have r9:=hU.out.cb
     go_wp2_with (at_mapUpdate;refine CC rfl _ _ _ _ rfl Tryz.underlying78 gs s' y rfl rfl rfl hU.out.set ?_)
     intro wa l3 a0;have n7:=zh (hU.out.add l3 a0);clear l3 a0;go_wp2;go_roundw
     case rel=>exact ⟨j+1,ins s' y,by omega,by go_num,n7,fun x=>by rw [mem_ins,O.out,e7.out];exact or_assoc⟩
     case measure=>simp [intOf];omega
    ·obtain rfl:j=l.length:=by omega
     have d7:Hid (∀x,x∈s'↔x∈(fixed.take (k+1)).flatten):=fun x=>by rw [O.out,e4.out,ER]
     go_wp2;go_roundw
     case rel=>exact ⟨k+1,s',by omega,by go_num,hU,d7⟩
     case measure=>simp [intOf];omega
  ·obtain rfl:k=fixed.length:=by omega
   have d7:Hid (∀x,x∈s↔x∈fixed.flatten):=fun x=>by rw [O.out,ER]
   clear O E hk;have U:zb w2 wk:=i6.out.trans hU.out.ext;have m2:=zh (d4.out.trans hU.out.ext);have i2:Hid (FreeM wk okm gm gt gb gs m t Af cf fixed s):=⟨r3 wk U,q0 wk U,hU.out.cb,m7.out.below m2.out,hU.out.set,d7.out⟩;clear hU d7 i6;have d5:Hid (zb w2 wk):=U;clear U;have U:zb w2 (wk.alloc (.map #[] 0)):=d5.out.alloc _
   go_wp2_with fail
   have b0:Hid (PI wk (wk.alloc (.map #[] 0)) wk.heap.size [] (.slice none 0 0) []):=⟨(zb.refl wk).alloc _,EG _,BS.new wk,Que.nil _ _⟩;obtain ⟨gf,g0⟩:=zad wk.heap.size;rw [<-g0] at b0⊢;have p7:Hid (gf=wk.heap.size):=g0;clear g0;generalize wk.alloc (.map #[] 0)=w4 at b0 U⊢;have b0:Hid (∃F v,PI wk w4 gf F v (F.map Prod.fst)/\F=zt (DA m t fixed) 0 (tk.2.take 0) []/\v=.slice none 0 0):=⟨[],_,b0.out,rfl,rfl⟩;clear U;go_loopw [15,55] (fun v i wr=>∃k F,k<=tk.2.length/\i=.int .i64 (k:Nat)/\Hid (PI wk wr gf F v (F.map Prod.fst))/\Hid (F=zt (DA m t fixed) 0 (tk.2.take k) [])) (fun _ i _=>tk.2.length - (intOf i).toNat)
   case atStart=>exact ⟨0,[],EU _,rfl,by obtain ⟨F,v,h1,h2,h3⟩:=b0.out;subst h3;rw [show F=[] from h2] at h1;exact h1,rfl⟩
   clear b0
   case round=>
    obtain ⟨k,F,hk,rfl,I,hF⟩:=hrel;obtain ⟨wi,rfl⟩:∃wi:World,wi=wr:=⟨_,rfl⟩;by_cases E:k<tk.2.length
    ·obtain ⟨b2,off2,rfl,_,o⟩:=zy m5.out E E;have z:wi.cell? ⟨b2,off2+k,none⟩=some (.int .i64 tk.2[k]):=(d5.out.trans I.out.ext).cell o;have B:Hid (zt (DA m t fixed) 0 (tk.2.take (k+1)) []=addS (DA m t fixed) 0 F tk.2[k]):=by show _=_;rw [hF.out];exact Ef E
     have c9:=f2.out tk.2[k] (.inr (EH E));have b5:F.length<=300:=by rw [hF.out];exact start_len G.out (fun x U=>f2.out x (.inr U)) k
     obtain ⟨y,hy⟩:=zad (tk.2[k]);rw [<-hy] at z B c9;clear hy o;obtain ⟨h7,h8⟩:=c9
     cases D:F.lookup y with
     | some d=>
      have c5:=Do I.out.far D;have M:Hid (F=zt (DA m t fixed) 0 (tk.2.take (k+1)) []):=by show _=_;rw [B.out,addS_old D]
      clear D;go_wp2;go_roundw
      case rel=>exact ⟨k+1,F,by omega,by go_num,I,M⟩
      case measure=>simp [intOf];omega
     | none=>
      have c5:=DU I.out.far D;have f3:=zh D;have V:=zh (path1_calls y wi (i2.out.ext I.out.ext) G.out.fn l4 h7 h8)
      cases J:DA m t fixed y with
      | false=>
       have M:Hid (F=zt (DA m t fixed) 0 (tk.2.take (k+1)) []):=by show _=_;rw [B.out,addS_not J]
       rw [J] at V;clear D J
       go_wp2_with fail
       refine V.out.mono ?_;rintro e w' ⟨rfl,rfl⟩;go_wp2;go_roundw
       case rel=>exact ⟨k+1,F,by omega,by go_num,I,M⟩
       case measure=>simp [intOf];omega
      | true=>
       have M:Hid (F++[(y,0)]=zt (DA m t fixed) 0 (tk.2.take (k+1)) []):=by show _=_;rw [B.out,addS_new D J]
       rw [J] at V;clear D J
       go_wp2_with fail
       refine V.out.mono ?_;rintro e w' ⟨rfl,rfl⟩
       go_wp2_with (at_mapUpdate;refine wpFarAdd rfl _ _ _ _ rfl Tryz.underlying83 gf F y 0 f3.out rfl rfl rfl I.out.far ?_)
       intro wa b8 a0;have a1:=zh (I.out.put b8 a0);have k5:=a1.out.lt;clear b8 a0 c5;have k7:(F.map Prod.fst).length<=300:=by rw [Fr];exact b5
       go_wp2_with (at_builtin;refine wpQueApp rfl _ _ rfl _ (F.map Prod.fst) y (gf+1) wa.heap.size 1 _ rfl rfl (a1.out.more ((zb.refl _).alloc _)).que ?d1 ?d2 ?d3 ?_)
       (try case d1=>exact zr _ _ _ (by simp))
       case d2=>(first | (simp;done) | (simp;omega) | omega)
       case d3=>omega
       intro v' wb c6 Q d6
       have f7:Hid (PI wk wb gf (F++[(y,0)]) v' ((F++[(y,0)]).map Prod.fst)):=by
        have:=(a1.out.more ((zb.refl _).alloc _)).app c6 Q;rw [Fz];exact this
       clear c6 Q d6;go_wp2;go_roundw
       case rel=>exact ⟨k+1,F++[(y,0)],by omega,by go_num,f7,M⟩
       case measure=>simp [intOf];omega
    ·obtain rfl:k=tk.2.length:=by omega
     have f0:Hid (F=zt (DA m t fixed) 0 (m.tasks.getD t ([],[])).2 []):=by have:=hF.out;rwa [ER,i5.out] at this
     have L:Hid (DN m (DA m t fixed) (m.tasks.getD t ([],[])).2 0 F):=by
      rw [f0.out];exact DN.start fun x U=>f2.out x (.inr (by rw [i5.out];exact U))
     have a3:Hid (∃f,bfs m (DA m t fixed) f 0 F=farP m t fixed/\m.n.toNat<f+0):=⟨m.n.toNat+1,by rw [f0.out];rfl,by omega⟩;clear hF f0 E hk;go_wp2
     go_loopg [15] 301 (fun gk v wr=>∃k F,gk+k=301/\k<=F.length/\Hid (PI wk wr gf F v ((F.drop k).map Prod.fst))/\Hid (DN m (DA m t fixed) (m.tasks.getD t ([],[])).2 k F)/\Hid (∃f,bfs m (DA m t fixed) f k F=farP m t fixed/\m.n.toNat<f+k))
     case atStart=>exact ⟨0,F,rfl,EU _,I,L,a3⟩
     clear I L a3
     case round=>
      obtain ⟨k,F,s3,s4,I,L,a3⟩:=hrel;obtain ⟨wo,rfl⟩:∃wo:World,wo=wr:=⟨_,rfl⟩;have f5:=L.out.len;have o7:=G.out.dim.n1;have b5:F.length<=300:=by unfold MZ.n at f5;omega
      clear f5 o7;by_cases E:k<F.length
      ·obtain ⟨p,hp⟩:=zad (F[k]);have a5:F[k]?=some p:=by rw [EE E,hp]
       have a4:(F.drop k).map Prod.fst=p.1 :: (F.drop (k+1)).map Prod.fst:=by rw [List.drop_eq_getElem_cons E,<-hp,List.map_cons]
       have hq:=I.out.que;rw [a4] at hq;obtain ⟨gq,oq,cq,v2,hv,o5,z,g9,n8,e5,e6⟩:=hq.head;subst hv;have j1:Hid (PI wk wo gf F v2 ((F.drop (k+1)).map Prod.fst)):=I.out.que2 g9;have j7:=I.out.lt;have l5:Hid (∀j,v2.ownBlock=some j->j<wo.heap.size):=fun j hj=>(g9.ge hj).2
       have o9:=L.out.rg _ (List.mem_of_getElem? a5);obtain ⟨⟨g5,g6⟩,_,_⟩:=o9;have g7:F.lookup p.1=some p.2:=CM L.out.nd (List.mem_of_getElem? a5);have o8:=L.out.dist G.out g7;have b3:=zh (L.out.part G.out a5);have b4:=zh (L.out.step G.out.dim a5)
       have d8:Hid (∃f,bfs m (DA m t fixed) f (k+1) (zt (DA m t fixed) (p.2+1) (zl m p.1) F)=farP m t fixed/\m.n.toNat<f+(k+1)):=by
        obtain ⟨f,h1,h2⟩:=a3.out;have f5:=L.out.len
        cases f with
        | zero=>omega
        | succ f=>exact ⟨f,by rw [<-h1,bfs_next a5],by omega⟩
       have i4:=zh g7;have q8:=zh a5;have q6:Hid (∀G',(((F++G').drop (k+1)).map Prod.fst:List Int)=(F.drop (k+1)).map Prod.fst++G'.map Prod.fst):=fun G'=>by rw [List.drop_append_of_le_length (by omega),Fz]
       obtain ⟨x,d⟩:=p;simp only at z g5 g6 o8 b3 b4 d8 i4 a4;have a6:Hid (zb w2 wo):=d5.out.trans I.out.ext;have U:zb w2 wo:=a6.out;have HN:Hid (AR m x=zl m x):=by show _=_;unfold AR;rw [if_pos ⟨HC.out,g5,g6⟩]
       have k4:(List.map Prod.fst (List.drop (k+1) F)).length=F.length - (k+1):=by simp
       rw [k4] at e5 e6 o5;have q1:(0:Int)<((F.length - (k+1)+1:Nat):Int):=by omega
       clear hp a5 hq a4 g9 n8 L a3 g7 I k4;have j4:(List.map Prod.fst (List.drop k F)).length=F.length - (k+1)+1:=by simp;omega
       try rw [j4]
       clear j4
       go_wp2_with fail
       refine (Et x wo (f1.out.below (a9.out.trans a6.out)) HL.out).mono ?_;rintro e w9 ⟨vn,rfl,i9⟩;have a7:Hid (Mk wo w9 vn (zl m x)):=by have:=i9;rw [HN.out] at this;exact this
       clear i9 HN;have j2:=zh (j1.out.more a7.out.ext);have j0:Hid (NL wo w9 w9 v2):=NL.start l5.out;have p8:gf<wo.heap.size:=j7;obtain ⟨A3,c3,rfl,r8,l1⟩:=a7.out.ints;have m9:=zh l1;have s5:=Bc m x;have t1:=a7.out.ext.size;have i1:Hid (k+1<=F.length):=E;clear l1 a7 j1 l5 U z e5 e6
       go_wp2_with fail
       go_loopw [15,91] (fun v i wr=>∃j F',j<=(zl m x).length/\i=.int .i64 (j:Nat)/\Hid (PI wk wr gf F' v ((F'.drop (k+1)).map Prod.fst))/\Hid (F'=zt (DA m t fixed) (d+1) ((zl m x).take j) F)/\Hid (NL wo w9 wr v)) (fun _ i _=>(zl m x).length - (intOf i).toNat)
       case atStart=>exact ⟨0,F,EU _,rfl,j2,rfl,j0⟩
       clear j2 j0
       case round=>
        obtain ⟨j,F',hj,rfl,I,hF,hN⟩:=hrel;obtain ⟨wi,rfl⟩:∃wi:World,wi=wr:=⟨_,rfl⟩;by_cases a2:j<(zl m x).length
        ·obtain ⟨b2,off2,rfl,b1,o⟩:=zy m9.out a2 a2;have b7:=zo o;have z:wi.cell? ⟨b2,off2+j,none⟩=some (.int .i64 (zl m x)[j]):=(CK (hN.out.same b2 ⟨b1,b7⟩ b7)).trans o;have B:Hid (zt (DA m t fixed) (d+1) ((zl m x).take (j+1)) F=addS (DA m t fixed) (d+1) F' (zl m x)[j]):=by show _=_;rw [hF.out];exact Ef a2
         have c9:=An G.out.dim g5 g6 (EH a2);have l8:F'.length<=300:=by rw [hF.out];exact b3.out j
         have n3:Hid (k+1<=F'.length):=by
          obtain ⟨G',hG,-⟩:=zL (DA m t fixed) (d+1) ((zl m x).take j) F;have:=i1.out;show _<=_;rw [hF.out,hG,EO];omega
         have o6:Hid (F'.lookup x=some d):=by show _=_;rw [hF.out];exact addAll_lookup i4.out
         obtain ⟨y,hy⟩:=zad ((zl m x)[j]);rw [<-hy] at z B c9;clear hy o;obtain ⟨h7,h8⟩:=c9
         cases D:F'.lookup y with
         | some e=>
          have c5:=Do I.out.far D;have M:Hid (F'=zt (DA m t fixed) (d+1) ((zl m x).take (j+1)) F):=by show _=_;rw [B.out,addS_old D]
          clear D;go_wp2;go_roundw
          case rel=>exact ⟨j+1,F',by omega,by go_num,I,M,hN⟩
          case measure=>simp [intOf];omega
         | none=>
          have c5:=DU I.out.far D;have f3:=zh D;have V:=zh (path1_calls y wi (i2.out.ext I.out.ext) G.out.fn l4 h7 h8)
          cases J:DA m t fixed y with
          | false=>
           have M:Hid (F'=zt (DA m t fixed) (d+1) ((zl m x).take (j+1)) F):=by show _=_;rw [B.out,addS_not J]
           rw [J] at V;clear D J
           go_wp2_with fail
           refine V.out.mono ?_;rintro e w' ⟨rfl,rfl⟩;go_wp2;go_roundw
           case rel=>exact ⟨j+1,F',by omega,by go_num,I,M,hN⟩
           case measure=>simp [intOf];omega
          | true=>
           have M:Hid (F'++[(y,d+1)]=zt (DA m t fixed) (d+1) ((zl m x).take (j+1)) F):=by show _=_;rw [B.out,addS_new D J]
           rw [J] at V;clear D J;have k3:=far_some I.out.far o6.out;have t0:IntKind.i64.wrap (d+1)=d+1:=by rw [Fb];omega
           go_wp2_with fail
           refine V.out.mono ?_;rintro e w' ⟨rfl,rfl⟩
           go_wp2_with (at_mapUpdate;refine wpFarAdd rfl _ _ _ _ rfl Tryz.underlying83 gf F' y (d+1) f3.out rfl rfl rfl I.out.far ?_)
           intro wa b8 a0;have a1:=zh (I.out.put b8 a0);have n6:=zh (hN.out.put a0 (by assumption));have k5:=a1.out.lt;clear b8 a0 c5 k3;have k7:(List.map Prod.fst (List.drop (k+1) F')).length<=300:=by rw [Fr,List.length_drop];omega
           obtain ⟨td,h4⟩:=zad (List.map Prod.fst (List.drop (k+1) F'))
           have n2:Hid ((List.drop (k+1) (F'++[(y,d+1)])).map Prod.fst=td++[y]):=by
            show _=_;rw [List.drop_append_of_le_length n3.out,Fz,h4];rfl
           rw [<-h4] at a1 k7;clear h4
           go_wp2_with (at_builtin;refine wpQueApp rfl _ _ rfl _ td y (gf+1) wa.heap.size 1 _ rfl rfl (a1.out.more ((zb.refl _).alloc _)).que ?d1 ?d2 ?d3 ?_)
           (try case d1=>exact zr _ _ _ (by simp))
           case d2=>(first | (simp;done) | (simp;omega) | omega)
           case d3=>omega
           intro v' wb c6 Q d6
           have f7:Hid (PI wk wb gf (F'++[(y,d+1)]) v' ((List.drop (k+1) (F'++[(y,d+1)])).map Prod.fst)):=by
            rw [n2.out];exact (a1.out.more ((zb.refl _).alloc _)).app c6 Q
           have n5:=zh ((n6.out.more ((zb.refl _).alloc _)).app Q (by have h:=d6.out;show _\/_;simpa using h));clear c6 Q d6;go_wp2;go_roundw
           case rel=>exact ⟨j+1,F'++[(y,d+1)],by omega,by go_num,f7,M,n5⟩
           case measure=>simp [intOf];omega
        ·have o2:j=(zl m x).length:=by omega
         subst o2;rw [ER] at hF;have i8:Hid (DN m (DA m t fixed) (m.tasks.getD t ([],[])).2 (k+1) F'):=by rw [hF.out];exact b4.out
         have i7:Hid (∃f,bfs m (DA m t fixed) f (k+1) F'=farP m t fixed/\m.n.toNat<f+(k+1)):=by rw [hF.out];exact d8.out
         have g4:Hid (k+1<=F'.length):=by
          obtain ⟨G',hG,-⟩:=zL (DA m t fixed) (d+1) (zl m x) F;have:=i1.out;show _<=_;rw [hF.out,hG,EO];omega
         go_wp2
         go_roundg (gk - 1)
         case measure=>omega
         case rel=>exact ⟨k+1,F',by omega,g4.out,I,i8,i7⟩
      ·have o4:k=F.length:=by omega
       subst o4
       have e3:Hid (F=farP m t fixed):=by
        obtain ⟨f,h1,-⟩:=a3.out;show _=_;rw [<-h1,bfs_end]
       have hq:=I.out.que;rw [FJ,List.map_nil] at hq;obtain ⟨A0,c0,hv,f9⟩:=hq.slice;subst hv;have a6:Hid (zb w2 wo):=d5.out.trans I.out.ext;have U:zb w2 wo:=a6.out;have n4:=zh I.out.far;have i3:=zh (m4.out.below a6.out);have HD:Hid (CE m F tk.1=BM m t fixed):=by show _=_;rw [HP.out,<-e3.out]
       have hz:(List.map Prod.fst (List.drop F.length F)).length=0:=by simp
       have l6:([]:List Int).length=0:=rfl;clear hq I a3 e3
       try rw [hz]
       try rw [l6]
       clear hz l6
       go_wp2_with fail
       go_region_held3 (fun w'=>zb w2 w'/\zb wo w')
        (first | (exact DJ U) | (exact held_ext (by assumption) f6.ext))
        ((go_at_call 49;refine (descend_calls wo.drew (f1.out.below (a9.out.trans a6.out.drew)) HL.out HC.out (i3.out.below (zb.refl wo).drew) (by omega) (n4.out.below (zb.refl wo).drew) L.out).mono ?_;rintro e w9 ⟨v9,rfl,f6⟩))
       rename_i hS
       have m6:=zh f6;clear f6 hS;go_wp2
       go_ret2
       rw [<-HD.out];exact ⟨v9,rfl,(a9.out.trans a6.out.drew).mono_mk m6.out⟩
structure TK (w1 wr:World) (gt n:Nat) (tk:List Int):Prop where
 ext:zb w1 wr
 lo:w1.heap.size<=gt
 tak:wr.rowIs gt 4 n (memF tk)
section
variable {w1 wr w':World} {gt n:Nat} {tk:List Int}
theorem TK.more (h:TK w1 wr gt n tk) (o:zb wr w'):TK w1 w' gt n tk:=⟨h.ext.trans o,h.lo,h.tak.of_block (o.block _ h.tak.lt)⟩
theorem TK.set {x:Int} (h:TK w1 wr gt n tk) (o:0<=x):TK w1 (wr.setCell ⟨gt,x.toNat,none⟩ (.bool true)) gt n (tk++[x]):=
 ⟨h.ext.setCell (p:=⟨gt,x.toNat,none⟩) h.lo _,h.lo,(h.tak.set x.toNat (.bool true)).congr fun j _=>memF_set o j⟩
theorem TK.skip {x:Int} (h:TK w1 wr gt n tk) (z:¬ (0<=x/\x<n)):TK w1 wr gt n (tk++[x]):=⟨h.ext,h.lo,h.tak.congr fun j o=>memF_more z o⟩
theorem TK.cell (h:TK w1 wr gt n tk) {x:Int} (h0:0<=x) (h1:x<n):wr.cell? ⟨gt,x.toNat,none⟩=some (.bool (decide (x∈tk)))/\wr.frozen? ⟨gt,x.toNat,none⟩=false:=by
 refine ⟨?_,h.tak.frozen _⟩;rw [h.tak.cell (by omega)];unfold memF;rw [Int.toNat_of_nonneg h0]
end
theorem taken_calls {ok:Nat->Prop} {v:Value} (w:World) (hm:zw w ok v m) (g:zC m) (hl:Lens m) (hf:zv w okf vf fixed) (d5:fixed.length<=20000000000000) (U:∀x∈fixed,x.length<=20000000000000):
  Calls Tryz.prog 52 #[v,vf] w fun e w'=>∃gt,e=.returned (.slice (some ⟨gt,0,none⟩) m.n.toNat m.n.toNat)/\TK w w' gt m.n.toNat fixed.flatten:=by
 obtain ⟨Af,cf,Au,cu,At,ct,rfl,-,-,-⟩:=hm.parts;have HF:=zh hf;have a7:=zh U;obtain ⟨vs,⟨A,c,rfl,hc,hr⟩,he⟩:=hf;have HR:=zh hr;have HE:=zh he;obtain ⟨e0,e3⟩:=g.dim.layer;obtain ⟨dw1,dw2,d7,d8,ll1,ll2,n1,-⟩:=g.dim;clear hm hr he hl U;obtain ⟨N,hN⟩:∃N:Nat,m.w*m.h*m.l=(N:Int):=⟨(m.w*m.h*m.l).toNat,by omega⟩;have c8:N<=300:=by omega
 have a8:Hid (m.n.toNat=N):=by (show _=_);unfold MZ.n;omega
 have a2:IntKind.i64.wrap (m.w*m.h)=m.w*m.h:=by rw [Fb];omega
 have a3:IntKind.i64.wrap (m.w*m.h*m.l)=m.w*m.h*m.l:=by rw [Fb];omega
 have HN:=zh hN;clear hN
 have b2:∀W:World,(Instr.makeSlice 29 (.int .i64 (m.w*m.h*m.l)) (.int .i64 (m.w*m.h*m.l))).run Tryz.prog W=.ok (.slice (some ⟨W.heap.size,0,none⟩) N N) (W.alloc (.cells (madeCells #[.bool false] N) 4)):=fun W=>by
  rw [HN.out];exact run_make_row' 29 4 (.bool false) 1 Tryz.underlying29 Tryz.infoBool rfl .i64 .i64 N (by omega) (by omega) W
 rw [a8.out]
 go_enter Tryz.func52,Tryz.ntmps52
 go_upto_region 1 with fail;obtain ⟨J,r0,r1,r2,r3,r4,r5⟩:=box6 w (.int .i64 m.w) (.int .i64 m.h) (.int .i64 m.l) (.slice Af m.free.length cf) (.slice Au m.up.length cu) (.slice At m.tasks.length ct);generalize w.alloc _=w1 at J r0 r1 r2 r3 r4 r5⊢;obtain ⟨gm,V⟩:=zad w.heap.size;rw [<-V] at r0 r1 r2 r3 r4 r5⊢;have Q:=zh J;clear V J;have hx:zb w1 w1:=zb.refl w1
 go_wp2_with fail
 have G:Hid (TK w (w1.alloc (.cells (madeCells #[.bool false] N) 4)) w1.heap.size N []):=⟨Q.out.alloc _,Q.out.size,World.rowIs_made w1 (.bool false) N 4⟩;generalize w1.alloc _=w2 at G⊢;obtain ⟨gt,a0⟩:=zad w1.heap.size;rw [<-a0] at G⊢;clear a0 b2 r0 r1 r2 r3 r4 r5 hx a2 a3;go_loopw [6] (fun i wr=>∃k:Nat,k<=fixed.length/\i=.int .i64 k/\Hid (TK w wr gt N (fixed.take k).flatten)) (fun i _=>fixed.length - (intOf i).toNat)
 case atStart=>exact ⟨0,EU _,rfl,G.out⟩
 clear G
 case round=>
  obtain ⟨k,hk,rfl,o⟩:=hrel;obtain ⟨wk,rfl⟩:∃wk:World,wk=wr:=⟨_,rfl⟩;have hx:zb w wk:=o.out.ext;by_cases I:k<fixed.length
  ·have b8:(k:Int)<(fixed.length:Int):=by omega
   have kk0:(0:Int)<=(k:Int):=by omega
   obtain ⟨bp,offp,up,rfl,-,T,M⟩:=Ai HR.out HE.out I I;have b3:=a7.out _ (EH I);have HS:Hid ((fixed.take (k+1)).flatten=(fixed.take k).flatten++fixed[k]):=by (show _=_);rw [EN I,List.flatten_append];simp
   obtain ⟨x,a4⟩:=zad (fixed[k]);rw [<-a4] at M b3 HS;have c7:=zh M;obtain ⟨Aq,cq,rfl,c9,a1⟩:=M;have a9:=zh a1;have rp:=zb.rule T;obtain ⟨B,hB⟩:=zad ((fixed.take k).flatten);rw [<-hB] at o HS;have O:Hid (TK w wk gt N (B++x.take 0)):=by (show TK _ _ _ _ _);rw [List.take_zero,List.append_nil];exact o.out
   clear T a1 a4 hB o
   go_wp2_with fail
   clear hx;go_loopw [7] (fun i wr=>∃j:Nat,j<=x.length/\i=.int .i64 j/\Hid (TK w wr gt N (B++x.take j))) (fun i _=>x.length - (intOf i).toNat)
   case atStart=>exact ⟨0,EU _,rfl,O.out⟩
   clear O
   case round=>
    obtain ⟨j,hj,rfl,o⟩:=hrel;obtain ⟨wj,rfl⟩:∃wj:World,wj=wr:=⟨_,rfl⟩;have hx:zb w wj:=o.out.ext;by_cases D:j<x.length
    ·have b1:(j:Int)<(x.length:Int):=by omega
     have kk1:(0:Int)<=(j:Int):=by omega
     obtain ⟨bq,offq,rfl,-,L⟩:=zy a9.out D D;have E:=zh (EN D);obtain ⟨y,hy⟩:=zad (x[j]);rw [<-hy] at L E;have ry:=zb.rule L;clear L hy;by_cases a5:0<=y
     ·by_cases b4:y<(N:Int)
      ·obtain ⟨d4,d6⟩:=o.out.cell a5 b4;have z:=zh (o.out.set a5)
       go_wp2_with fail
       go_roundw
       case rel=>exact ⟨j+1,by omega,by go_num,by rw [E.out,<-List.append_assoc];exact z⟩
       case measure=>simp [intOf];omega
      ·have z:=zh (o.out.skip (x:=y) (by omega))
       go_wp2_with fail
       go_roundw
       case rel=>exact ⟨j+1,by omega,by go_num,by rw [E.out,<-List.append_assoc];exact z⟩
       case measure=>simp [intOf];omega
     ·have z:=zh (o.out.skip (x:=y) (by omega))
      go_wp2_with fail
      go_roundw
      case rel=>exact ⟨j+1,by omega,by go_num,by rw [E.out,<-List.append_assoc];exact z⟩
      case measure=>simp [intOf];omega
    ·obtain rfl:j=x.length:=by omega
     rw [ER] at o
     go_wp2_with fail
     go_roundw
     case rel=>exact ⟨k+1,by omega,by go_num,by rw [HS.out];exact o⟩
     case measure=>simp [intOf];omega
  ·obtain rfl:k=fixed.length:=by omega
   rw [ER] at o
   go_wp2_with fail
   go_ret;exact ⟨gt,rfl,o.out⟩
end
section
open Go.RowKit
theorem cand_pw (g:zC m) (h:zx m ch):(cand m ch).Pairwise (·<·):=by
 cases o:zX m ch
 ·obtain ⟨qs,p,h1,h2,h3⟩:=ps_form h o;rcases List.eq_nil_or_concat p with rfl | ⟨q,y,rfl⟩
  ·rw [cand_beg g h1 o h2];exact (range_pw _).filter _
  ·rw [List.concat_eq_append] at h1;rw [cand_on h1 o];exact (nextL_pw g.dim y).filter _
 ·rw [cand_cmp o];exact List.Pairwise.nil
structure Goal (m:MZ) (c:List Int):Prop where
 ch:zx m c
 cmp:zX m c=true
 op:∀k,k<c.length->Bb m (c.take (k+1))=true
def DD (ch c:List Int):Prop:=(∃r,c=ch++r)\/∃k,k<ch.length/\k<c.length/\ch.take k=c.take k/\ch.getD k 0<c.getD k 0
theorem aft_le {b x:Int} (hp:(cand m ch).Pairwise (·<·)) (o:x∈cand m ch) (z:b<x) (D:Bb m (ch++[x])=true):∃n,aft m ch b=some n/\n<=x:=by
 unfold aft
 cases B:(cand m ch).find? fun n=>decide (b<n) && Bb m (ch++[n]) with
 | none=>
  have:=List.find?_eq_none.1 B x o;simp [z,D] at this
 | some n=>
  refine ⟨n,rfl,?_⟩;obtain ⟨_,l1,l2,h1,h2⟩:=List.find?_eq_some_iff_append.1 B;rw [h1] at o hp;rcases Fx.1 o with h | h
  ·have:=h2 x h;simp [z,D] at this
  ·rcases Fw.1 h with rfl | h
   ·exact Int.le_refl _
   ·have h3:=(List.pairwise_append.1 hp).2.1;have:=(List.pairwise_cons.1 h3).1 x h;omega
theorem notBehind_at {n:Int} (o:k<c.length) (D:n<=c.getD k 0):DD (c.take k++[n]) c:=by
 have B:c.getD k 0=c[k]:=by rw [EF,EE o,Fl]
 have z:(c.take k).length=k:=by rw [FA];omega
 rcases Int.lt_or_le n (c.getD k 0) with h | h
 ·refine .inr ⟨k,by simp;omega,o,?_,?_⟩
  ·rw [List.take_append_of_le_length (by omega),List.take_take,Nat.min_self]
  ·have:(c.take k++[n]).getD k 0=n:=by
    rw [EF,EM (by omega),z,Nat.sub_self];rfl
   rw [this];exact h
 ·have:n=c[k]:=by omega
  subst this;exact .inl ⟨c.drop (k+1),by rw [<-EN o,List.take_append_drop]⟩
theorem Goal.cand {m:MZ} {c:List Int} (h:Goal m c) {k:Nat} (o:k<c.length):c.getD k 0∈Go.Proofs.YthbjngbhbbkkgaaGreat.cand m (c.take k)/\Bb m (c.take k++[c.getD k 0])=true:=by
 have z:c.getD k 0=c[k]:=by rw [EF,EE o,Fl]
 rw [z];exact ⟨h.ch.at o,by rw [<-EN o];exact h.op k o⟩
theorem Ec {m:MZ} (g:zC m) {ch c:List Int} (hG:Goal m c) {k:Nat} (h1:k<ch.length) (h2:k<c.length) (h3:ch.take k=c.take k) (o:ch.getD k 0<c.getD k 0):∀j,k<j->j<=ch.length->∃ch',backN m ch j=some ch'/\DD ch' c
 | 0,h,_=>by omega
 | j+1,E,D=>by
  unfold backN;rcases Fc k j with hkj | hkj
  ·split
   ·rename_i n B
    refine ⟨_,rfl,.inr ⟨k,by simp;omega,h2,?_,?_⟩⟩
    ·rw [List.take_append_of_le_length (by rw [FA];omega),List.take_take,Nat.min_eq_left (by omega)];exact h3
    ·have:(ch.take j++[n]).getD k 0=ch.getD k 0:=by
      rw [EF,EL (by rw [FA];omega),List.getElem?_take_of_lt hkj,<-EF]
     rw [this];exact o
   ·exact Ec g hG h1 h2 h3 o j hkj (by omega)
  ·obtain rfl:j=k:=by omega
   obtain ⟨c1,c2⟩:=hG.cand h2;obtain ⟨n,B,z⟩:=aft_le (cand_pw g (hG.ch.take j)) c1 o c2;rw [h3,B];exact ⟨_,rfl,notBehind_at h2 z⟩
theorem step_notBehind (g:zC m) (hG:Goal m c) (o:zx m ch) (z:DD ch c) (G:zX m ch=false):∃ch',stepC m ch=some ch'/\DD ch' c:=by
 unfold stepC;rcases z with ⟨r,B⟩ | ⟨k,h1,h2,h3,E⟩
 ·have I:ch.length<c.length:=by
   rw [B,EO]
   cases r with
   | nil=>rw [List.append_nil] at B;subst B;rw [hG.cmp] at G;cases G
   | cons x r=>simp
  have J:c.take ch.length=ch:=by rw [B,List.take_append_of_le_length (EG _),ER]
  obtain ⟨c1,c2⟩:=hG.cand I;rw [J] at c1 c2;have L:=((zx.snoc o c1).range g).1 _ (List.mem_append_right _ (Fo.2 rfl));obtain ⟨n,z,D⟩:=aft_le (cand_pw g o) c1 (b:=-1) (by omega) c2;rw [z];refine ⟨_,rfl,?_⟩;have:=notBehind_at I D
  rwa [J] at this
 ·split
  ·rename_i n z
   refine ⟨_,rfl,.inr ⟨k,by simp;omega,h2,?_,?_⟩⟩
   ·rw [List.take_append_of_le_length (by omega)];exact h3
   ·have:(ch++[n]).getD k 0=ch.getD k 0:=by
     rw [EF,EL h1,<-EF]
    rw [this];exact E
  ·exact Ec g hG h1 h2 h3 E ch.length h1 (EG _)
theorem run_goal {m:MZ} (g:zC m) {c:List Int} (hG:Goal m c):∀(n:Nat) {s:RS},zx m s.ch->DD s.ch c->s.done=zX m s.ch->(RS.run m n s).done=zX m (RS.run m n s).ch
 | 0,s,_,_,h=>h
 | n+1,s,h1,h2,h3=>by
  unfold RS.run
  split
  ·exact h3
  ·rename_i E
   have D:zX m s.ch=false:=by rw [<-h3];simpa using E
   obtain ⟨ch',o,z⟩:=step_notBehind g hG h1 h2 D;have B:s.one m=⟨ch',zX m ch',s.steps+1⟩:=by unfold RS.one;rw [o]
   rw [B];exact run_goal g hG n (s:=⟨ch',zX m ch',s.steps+1⟩) (stepC_some h1 o).1 z rfl
end
end Go.Proofs.YthbjngbhbbkkgaaGreat
