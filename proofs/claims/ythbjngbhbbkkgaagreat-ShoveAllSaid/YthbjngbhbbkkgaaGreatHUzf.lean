/- RtVd RtVe -/
import Derived.Test.YthbjngbhbbkkgaaGreatHUn
set_option linter.unusedVariables false
set_option linter.unusedSimpArgs false
set_option maxRecDepth 100000
set_option maxHeartbeats 16000000
namespace Go.Proofs.YthbjngbhbbkkgaaGreat
open Go.RowKit
theorem zdh:∀n:Nat,(List.range n).Nodup:=fun n=>List.nodup_range
theorem right_laid {m:MZ} {ps qs:List (List Int)} {t:Nat} (h0:chk m=0) (hl:ps.length=m.tasks.length) (hq:qs.length=ps.length) (hk:∀k,k<ps.length→zah ps t k=false→qs.getD k []=[]) (h:zZ (zay m ps t) ((zat ps t).map (qs.getD · []))=true):
  zau m qs=true∧∀k,k<ps.length→(qs.getD k []≠[]↔zah ps t k=true):=by
 obtain ⟨_,h1,h2,h3⟩:=zbc.1 h
 have at_:∀j (hj:j<(zat ps t).length),((zat ps t).map (qs.getD · [])).getD j []=qs.getD (zat ps t)[j] []:=fun j hj=>by
  rw [List.getD_eq_getElem?_getD,List.getElem?_map,List.getElem?_eq_getElem hj];rfl
 have idx:∀k,k<ps.length→qs.getD k []≠[]→∃j,∃hj:j<(zat ps t).length,(zat ps t)[j]=k:=fun k hk2 hne=>by
  have:k∈zat ps t:=zc8.2 ⟨hk2,by cases hb:zah ps t k with | true=>rfl | false=>exact absurd (hk k hk2 hb) hne⟩;obtain ⟨j,hj,e⟩:=List.getElem_of_mem this;exact ⟨j,hj,e⟩
 have lt:∀{i:Nat} {x:Int},x∈qs.getD i []→i<ps.length:=fun {i x} hx=>by
  by_cases hi:i<qs.length
  ·omega
  ·rw [List.getD_eq_getElem?_getD,List.getElem?_eq_none (by omega)] at hx;cases hx
 refine ⟨zC.2 ⟨h0,by omega,fun k hk2 hne=>?_,fun i=>?_,fun i j x hi hj=>?_⟩,fun k hk2=>⟨fun hne=>?_,fun hb=>?_⟩⟩
 ·obtain ⟨j,hj,e⟩:=idx k (by omega) hne;have:=h2 j (by simpa using hj);rw [at_ j hj,e] at this;refine this.congr rfl rfl rfl rfl ?_ ?_
  ·show _=((zat ps t).map (m.tasks.getD · ([],[]))).getD j ([],[]);rw [List.getD_eq_getElem?_getD (l:=List.map _ _),List.getElem?_map,List.getElem?_eq_getElem hj,e];rfl
  ·show _=((zat ps t).map (m.free.getD · [])).getD j [];rw [List.getD_eq_getElem?_getD (l:=List.map _ _),List.getElem?_map,List.getElem?_eq_getElem hj,e];rfl
 ·by_cases hne:qs.getD i []=[]
  ·rw [hne];exact List.nodup_nil
  ·by_cases hi:i<ps.length
   ·obtain ⟨j,hj,e⟩:=idx i hi hne;have:=h3.1 j
    rwa [at_ j hj,e] at this
   ·rw [List.getD_eq_getElem?_getD,List.getElem?_eq_none (by omega)];exact List.nodup_nil
 ·obtain ⟨a,ha,ea⟩:=idx i (lt hi) (fun e=>by rw [e] at hi;cases hi);obtain ⟨b,hb,eb⟩:=idx j (lt hj) (fun e=>by rw [e] at hj;cases hj);have:=h3.2 a b x (by rw [at_ a ha,ea];exact hi) (by rw [at_ b hb,eb];exact hj);subst this;rw [←ea,←eb]
 ·cases hb:zah ps t k with
  | true=>rfl
  | false=>exact absurd (hk k hk2 hb) hne
 ·intro e;have:k∈zat ps t:=zc8.2 ⟨hk2,hb⟩;obtain ⟨j,hj,e2⟩:=List.getElem_of_mem this;have:=(h2 j (by simpa using hj)).ne;rw [at_ j hj,e2] at this;exact this e
theorem nodup_ints {l:List Nat} (h:l.Nodup):(l.map Int.ofNat).Nodup:=by
 rw [List.nodup_iff_pairwise_ne] at h⊢;rw [List.pairwise_map];exact h.imp fun hab e=>hab (Int.ofNat.inj e)
theorem laidL_nodup (ps:List (List Int)):(zaV ps).Nodup:=nodup_ints ((zdh _).filter _)
theorem clearP_get:∀(s:List Int) (ps:List (List Int)) (k:Nat),(∀x∈s,0≤x)→(zba ps s).getD k []=if (k:Int)∈s then [] else ps.getD k []
 | [],ps,k,_=>by simp [zba]
 | x :: s,ps,k,h=>by
  have h1:=clearP_get s (ps.set x.toNat []) k (fun y hy=>h y (List.mem_cons_of_mem _ hy));have h0:=h x (List.mem_cons_self ..);unfold zba at h1⊢;rw [List.foldl_cons,h1,zaJ];by_cases hk:(k:Int)∈s
  ·rw [if_pos hk,if_pos (List.mem_cons_of_mem _ hk)]
  ·rw [if_neg hk];by_cases hx:(k:Int)=x
   ·have hm:(k:Int)∈x :: s:=by rw [hx];exact List.mem_cons_self ..
    rw [if_pos hm]
    split
    ·rfl
    ·rename_i h2
     have h3:¬ k<ps.length:=fun h=>h2 ⟨by omega,h⟩
     rw [List.getD_eq_getElem?_getD,List.getElem?_eq_none (by omega)]
     all_goals rfl
   ·have hm:(k:Int)∉x :: s:=fun hc=>by
     rcases List.mem_cons.1 hc with hc | hc
     ·exact hx hc
     ·exact hk hc
    rw [if_neg hm,if_neg (fun hc=>hx (by omega))]
theorem pushL_ok {m:MZ}:∀(L:List Int) (o r:List (List Int)),pushL m L o=some r→L.Nodup→(∀k∈L,0≤k∧k<o.length∧o.getD k.toNat []=[])→(∀k,k<o.length→o.getD k []≠[]→PathT m k (o.getD k []))→Apart o→
  r.length=o.length∧(∀k,k<o.length→r.getD k []≠[]→PathT m k (r.getD k []))∧Apart r∧(∀k∈L,r.getD k.toNat []≠[])∧∀k:Nat,(k:Int)∉L→r.getD k []=o.getD k []
 | [],o,r,h,_,_,h2,h3=>by
  unfold pushL at h;injection h with h;subst h;exact ⟨rfl,h2,h3,fun k hk=>(by cases hk),fun k _=>rfl⟩
 | a :: L,o,r,h,hn,h1,h2,h3=>by
  unfold pushL at h
  split at h
  ·cases h
  ·rename_i p hp
   obtain ⟨hc,⟨ha0,hat⟩,hI⟩:=pathP_ok hp;obtain ⟨_,ha1,ha2⟩:=h1 a (List.mem_cons_self ..);have hnd:=List.nodup_cons.1 hn
   have hne:∀k∈L,k.toNat≠a.toNat:=fun k hk e=>by
    have:=(h1 k (List.mem_cons_of_mem _ hk)).1;have:k=a:=by omega
    subst this;exact hnd.1 hk
   obtain ⟨r1,r2,r3,r4,r5⟩:=pushL_ok L (o.set a.toNat p) r h hnd.2 (fun k hk=>by
     obtain ⟨b0,b1,b2⟩:=h1 k (List.mem_cons_of_mem _ hk);refine ⟨b0,by rw [List.length_set];exact b1,?_⟩;rw [zaJ,if_neg (by have:=hne k hk;omega)];exact b2)
    (fun k hk hne=>by
     rw [List.length_set] at hk;rw [zaJ] at hne⊢
     split
     ·rename_i h4
      have:=hI.pathT
      rwa [h4.1] at this
     ·rename_i h4
      rw [if_neg h4] at hne;exact h2 k hk hne)
    (h3.set hI.nd fun x hx i _ hi=>(hI.fr x hx).2 (za2.2 ⟨i,hi⟩))
   rw [List.length_set] at r1 r2;refine ⟨r1,r2,r3,fun k hk=>?_,fun k hk=>?_⟩
   ·rcases List.mem_cons.1 hk with rfl | hk
    ·have:r.getD k.toNat []=p:=by
      rw [r5 k.toNat (by rw [Int.toNat_of_nonneg ha0];exact hnd.1),zaJ,if_pos ⟨rfl,by omega⟩]
     rw [this];exact hI.ne
    ·exact r4 k hk
   ·rw [r5 k (fun hc=>hk (List.mem_cons_of_mem _ hc)),zaJ,if_neg];intro hc;exact hk (by rw [←hc.1,Int.toNat_of_nonneg ha0];exact List.mem_cons_self ..)
structure Kept (m:MZ) (ps:List (List Int)) (t:Nat) (qs:List (List Int)) (mv:List Int):Prop where
 len:qs.length=ps.length
 laid:zau m qs=true
 ne:∀k,k<ps.length→(qs.getD k []≠[]↔zah ps t k=true)
 same:∀k:Nat,k<ps.length→k≠t→(k:Int)∉mv→qs.getD k []=ps.getD k []
 tm:(t:Int)∉mv
theorem zcd {ps:List (List Int)} {t k:Nat}:zah ps t k=true↔k=t∨ps.getD k []≠[]:=by
 unfold zah;rw [Bool.or_eq_true,decide_eq_true_eq,decide_eq_true_eq]
theorem push_kept {m:MZ} {ps qs:List (List Int)} {t:Int} {s:List Int} (hL:zau m ps=true) (h0:0≤t) (h1:t<ps.length) (h2:ps.getD t.toNat []=[]) (hs:s∈zav (zaV ps)) (h:zbW m ps t s=some qs):Kept m ps t.toNat qs s:=by
 obtain ⟨c0,c1,c2,c3⟩:=zC.1 hL;have hsub:=subsP_sub hs;have hsm:∀x∈s,∃k:Nat,k<ps.length∧x=(k:Int)∧ps.getD k []≠[]:=fun x hx=>mem_laidL.1 (hsub.subset hx)
 have hs0:∀x∈s,0≤x:=fun x hx=>by obtain ⟨k,-,rfl,-⟩:=hsm x hx;omega
 have hts:t∉s:=fun hc=>by
  obtain ⟨k,hk,rfl,hne⟩:=hsm t hc;rw [Int.toNat_natCast] at h2;exact hne h2
 have hg:=fun k=>clearP_get s ps k hs0
 obtain ⟨r1,r2,r3,r4,r5⟩:=pushL_ok (t :: s) (zba ps s) qs h (List.nodup_cons.2 ⟨hts,(laidL_nodup ps).sublist hsub⟩)
  (fun k hk=>by
   rw [zbJ,hg];rcases List.mem_cons.1 hk with rfl | hk
   ·exact ⟨h0,h1,by split;rfl;exact h2⟩
   ·obtain ⟨j,hj,rfl,hne⟩:=hsm k hk;exact ⟨by omega,by omega,by rw [if_pos (by rwa [Int.toNat_natCast])]⟩)
  (fun k hk hne=>by
   rw [zbJ] at hk;rw [hg] at hne⊢
   split at hne
   ·exact absurd rfl hne
   ·rename_i h4
    rw [if_neg h4];exact c2 k hk hne)
  ⟨fun i=>by rw [hg];split;exact List.nodup_nil;exact c3.1 i,fun i j x hi hj=>by
   rw [hg] at hi hj
   split at hi
   ·cases hi
   ·split at hj
    ·cases hj
    ·exact c3.2 i j x hi hj⟩
 rw [zbJ] at r1 r2;refine ⟨r1,zC.2 ⟨c0,by omega,fun k hk=>r2 k (by omega),r3⟩,fun k hk=>?_,fun k hk hkt hkm=>?_,by rwa [Int.toNat_of_nonneg h0]⟩
 ·rw [zcd];by_cases hkt:k=t.toNat
  ·subst hkt;exact ⟨fun _=>.inl rfl,fun _=>r4 t (List.mem_cons_self ..)⟩
  ·by_cases hks:(k:Int)∈s
   ·have h5:=r4 k (List.mem_cons_of_mem _ hks);rw [Int.toNat_natCast] at h5;obtain ⟨j,hj,e,hne⟩:=hsm _ hks;have:j=k:=by omega
    subst this;exact ⟨fun _=>.inr hne,fun _=>h5⟩
   ·rw [r5 k (fun hc=>by rcases List.mem_cons.1 hc with hc | hc;omega;exact hks hc),hg,if_neg hks];exact ⟨.inr,fun hc=>hc.elim (fun e=>absurd e hkt) id⟩
 ·rw [r5 k (fun hc=>by rcases List.mem_cons.1 hc with hc | hc;omega;exact hkm hc),hg,if_neg hkm]
theorem fillP_ok {ps:List (List Int)} {t:Nat}:∀(l:List Nat) (fd o:List (List Int)) (mv:List Int),l.Nodup→(∀k∈l,k<o.length)→fd.length=(l.filter (zah ps t)).length→
  (zaE ps t l fd o mv).1.length=o.length∧(l.filter (zah ps t)).map ((zaE ps t l fd o mv).1.getD · [])=fd∧(∀k,(k∈l→zah ps t k=false)→(zaE ps t l fd o mv).1.getD k []=o.getD k [])∧
   (∀x∈(zaE ps t l fd o mv).2,x∈mv∨∃k:Nat,k∈l∧k≠t∧x=(k:Int))∧(∀x∈mv,x∈(zaE ps t l fd o mv).2)∧∀k:Nat,k∈l→zah ps t k=true→k≠t→(k:Int)∉(zaE ps t l fd o mv).2→(zaE ps t l fd o mv).1.getD k []=ps.getD k []
 | [],fd,o,mv,_,_,h=>by
  have:fd=[]:=by simpa using h
  subst this;exact ⟨rfl,rfl,fun _ _=>rfl,fun x hx=>.inl hx,fun x hx=>hx,fun k hk=>(by cases hk)⟩
 | a :: l,fd,o,mv,hn,hb,h=>by
  have hnd:=List.nodup_cons.1 hn;unfold zaE;by_cases hk:zah ps t a=true
  ·rw [if_pos hk];rw [List.filter_cons_of_pos hk] at h⊢
   cases fd with
   | nil=>simp at h
   | cons f fd=>
    simp only [List.headD_cons,List.tail_cons];obtain ⟨r1,r2,r3,r4,r5,r6⟩:=fillP_ok l fd (o.set a f) (mvP ps t a f mv) hnd.2 (fun k hk=>by rw [List.length_set];exact hb k (List.mem_cons_of_mem _ hk)) (by simpa using h)
    have ha:(zaE ps t l fd (o.set a f) (mvP ps t a f mv)).1.getD a []=f:=by
     rw [r3 a (fun hc=>absurd hc hnd.1),zaJ,if_pos ⟨rfl,hb a (List.mem_cons_self ..)⟩]
    refine ⟨by rw [r1,List.length_set],by rw [List.map_cons,r2,ha],fun k hk2=>?_,fun x hx=>?_,fun x hx=>?_,fun k hk2 hk3 hk4 hk5=>?_⟩
    ·by_cases hka:k=a
     ·subst hka;rw [hk2 (List.mem_cons_self ..)] at hk;cases hk
     ·rw [r3 k (fun hc=>hk2 (List.mem_cons_of_mem _ hc)),zaJ,if_neg (by omega)]
    ·rcases r4 x hx with h4 | ⟨k,h4,h5,rfl⟩
     ·unfold mvP at h4
      split at h4
      ·rename_i h6
       rcases List.mem_append.1 h4 with h4 | h4
       ·exact .inl h4
       ·exact .inr ⟨a,List.mem_cons_self ..,h6.1,by simpa using h4⟩
      ·exact .inl h4
     ·exact .inr ⟨k,List.mem_cons_of_mem _ h4,h5,rfl⟩
    ·refine r5 x ?_;unfold mvP
     split
     ·exact List.mem_append_left _ hx
     ·exact hx
    ·rcases List.mem_cons.1 hk2 with rfl | hk2
     ·rw [ha];by_cases he:ps.getD k []=f
      ·exact he.symm
      ·exact absurd (r5 _ (by unfold mvP;rw [if_pos ⟨hk4,he⟩];simp)) hk5
     ·exact r6 k hk2 hk3 hk4 hk5
  ·have hk':zah ps t a=false:=by simpa using hk
   rw [if_neg hk];rw [List.filter_cons_of_neg hk] at h⊢;obtain ⟨r1,r2,r3,r4,r5,r6⟩:=fillP_ok l fd o mv hnd.2 (fun k hk=>hb k (List.mem_cons_of_mem _ hk)) h;refine ⟨r1,r2,fun k hk2=>r3 k (fun hc=>hk2 (List.mem_cons_of_mem _ hc)),fun x hx=>?_,r5,fun k hk2 hk3 hk4 hk5=>?_⟩
   ·rcases r4 x hx with h4 | ⟨k,h4,h5,rfl⟩
    ·exact .inl h4
    ·exact .inr ⟨k,List.mem_cons_of_mem _ h4,h5,rfl⟩
   ·rcases List.mem_cons.1 hk2 with rfl | hk2
    ·rw [hk'] at hk3;cases hk3
    ·exact r6 k hk2 hk3 hk4 hk5
theorem endS_isCh {m:MZ} {ps:List (List Int)} {t:Nat}:zu (zay m ps t) (endS m ps t).ch:=run_isCh 20000 (s:=⟨[],zae (zay m ps t) [],0⟩) zu.nil
theorem addP_kept {m:MZ} {ps:List (List Int)} {t:Int} (h:(zaw m ps t).err=0):(zau m ps=true∧(0≤t∧t<m.tasks.length)∧ps.getD t.toNat []=[])∧Kept m ps t.toNat (zaw m ps t).ps (zaw m ps t).mv:=by
 unfold zaw at h⊢
 split at h
 ·rename_i hc
  rw [if_pos hc];rw [Bool.and_eq_true,Bool.and_eq_true,decide_eq_true_eq,zaf] at hc;obtain ⟨hL,⟨hc0,h0,h1⟩,h2⟩:=hc;obtain ⟨c0,c1,c2,c3⟩:=zC.1 hL;refine ⟨⟨hL,⟨h0,h1⟩,h2⟩,?_⟩
  split at h
  ·rename_i r hr
   obtain ⟨s,hs,hp⟩:=List.exists_of_findSome?_eq_some hr;rw [Option.map_eq_some_iff] at hp;obtain ⟨o,ho,rfl⟩:=hp;exact push_kept hL h0 (by omega) h2 hs ho
  ·have g:=zcB (zx.of c0) c1 t.toNat;unfold zac at h⊢
   split at h
   ·simp at h
   ·rename_i hd
    rw [if_neg hd]
    split at h
    ·rename_i hcm
     rw [if_pos hcm];have hch:=endS_isCh (m:=m) (ps:=ps) (t:=t.toNat);have hr:=right_ch g hch hcm;have hlen:=(zbc.1 hr).2.1
     have hlen2:(zJ (zay m ps t.toNat) (endS m ps t.toNat).ch).length=((List.range ps.length).filter (zah ps t.toNat)).length:=by
      rw [hlen];simp [zay,zat]
     generalize zJ (zay m ps t.toNat) (endS m ps t.toNat).ch=fd at hr hlen2;obtain ⟨r1,r2,r3,r4,r5,r6⟩:=fillP_ok (ps:=ps) (t:=t.toNat) (List.range ps.length) fd ps [] (zdh _) (fun k hk=>List.mem_range.1 hk) hlen2;have r2':(zat ps t.toNat).map ((zaE ps t.toNat (List.range ps.length) fd ps []).1.getD · [])=fd:=r2;rw [←r2'] at hr
     obtain ⟨q1,q2⟩:=right_laid c0 c1 r1 (fun k hk hb=>by
      rw [r3 k (fun _=>hb)];apply Decidable.byContradiction;intro hne;rw [zcd.2 (.inr hne)] at hb;cases hb) hr
     refine ⟨r1,q1,q2,fun k hk hkt hkm=>?_,fun hc=>?_⟩
     ·cases hb:zah ps t.toNat k with
      | true=>exact r6 k (List.mem_range.2 hk) hb hkt hkm
      | false=>exact r3 k (fun _=>hb)
     ·rcases r4 _ hc with h4 | ⟨k,_,h5,h6⟩
      ·cases h4
      ·omega
    ·split at h
     ·simp at h
     ·rename_i h4;exact absurd h h4
 ·simp at h
end Go.Proofs.YthbjngbhbbkkgaaGreat
