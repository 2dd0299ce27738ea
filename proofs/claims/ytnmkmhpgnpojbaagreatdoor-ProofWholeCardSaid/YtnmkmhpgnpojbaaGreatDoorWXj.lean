import Derived.Test.YtnmkmhpgnpojbaaGreatDoorWXi
import Derived.Deep.LoopGhost
import Derived.StillTailTactics
import Derived.Deep.DeepCutAuto
set_option linter.unusedVariables false
set_option linter.unusedSimpArgs false
set_option maxRecDepth 100000
set_option maxHeartbeats 16000000
namespace Go.Proofs.YtnmkmhpgnpojbaaGreatDoor
variable {ch:List Int} {ptrs:List Nat} {a b l:List UInt8} {vs:List Value} {m:MZ} {cap g gr i r:Nat} {X Y:Nat->Prop} {s:RS} {c:UInt8} {u v v':Value} {w w' wr:World}
section
open Go.RowKit Go.Shelf
attribute [local go_sem ↓] Go.wp_at_zero Go.wp_at_succ
def cutAt (c:UInt8):List UInt8->Option (List UInt8×List UInt8)
 | []=>none
 | b :: l=>if b==c then some ([],l) else (cutAt c l).map fun p=>(b :: p.1,p.2)
theorem cutAt_none {c:UInt8}:∀{l:List UInt8},cutAt c l=none->Lib.indexByte l c=-1
 | [],_=>rfl
 | b :: l,h=>by
  unfold cutAt at h;unfold Lib.indexByte
  split at h
  ·cases h
  ·rename_i d
   rw [Option.map_eq_none_iff] at h;rw [if_neg d,cutAt_none h];rfl
theorem CL {c:UInt8}:∀{l a b:List UInt8},cutAt c l=some (a,b)->Lib.indexByte l c=a.length/\l=a++c :: b
 | [],a,b,h=>by cases h
 | x :: l,a,b,h=>by
  unfold cutAt at h;unfold Lib.indexByte
  split at h
  ·rename_i d
   injection h with h;injection h with o z;subst o z;rw [if_pos d,(beq_iff_eq.1 d)];exact ⟨rfl,rfl⟩
  ·rename_i d
   obtain ⟨p,hp,e⟩:=Option.map_eq_some_iff.1 h;injection e with o z;subst o z;obtain ⟨B,D⟩:=CL (a:=p.1) (b:=p.2) hp;rw [if_neg d,B,if_neg (by simp),D];exact ⟨by simp,rfl⟩
theorem ext_take (l:List UInt8) (n:Nat):(ByteArray.mk l.toArray).extract 0 n=⟨(l.take n).toArray⟩:=by
 apply ByteArray.ext;simp [ByteArray.data_extract]
theorem ext_drop (l:List UInt8) (n:Nat):(ByteArray.mk l.toArray).extract n l.length=⟨(l.drop n).toArray⟩:=by
 apply ByteArray.ext;simp [ByteArray.data_extract];exact List.take_of_length_le (by simp)
theorem lcut_no (w:World) (h:cutAt c l=none):Calls Tryz.prog 245 #[.string ⟨l.toArray⟩,.string ⟨#[c]⟩] w fun e w'=>e=.returned (.tuple #[.string ⟨l.toArray⟩,.string ⟨#[]⟩,.bool false])/\w=w':=by
 have o:=zh (Any.stringslite_Index_one sIdx ⟨l.toArray⟩ c w);have z:=cutAt_none h;have d:Lib.indexByte (ByteArray.mk l.toArray).data.toList c=-1:=z;rw [d] at o;clear z d h
 go_enter Tryz.func245,Tryz.ntmps245
 go_wp2_with fail
 refine o.out.mono ?_;rintro e w1 ⟨rfl,rfl⟩
 go_wp2_with fail
 exact El (by simp [results,Tryz.results245,go_sem]) rfl ⟨rfl,rfl⟩
theorem lcut_yes (w:World) (h:cutAt c l=some (a,b)) (E:l.length<=9223372036854775000):Calls Tryz.prog 245 #[.string ⟨l.toArray⟩,.string ⟨#[c]⟩] w fun e w'=>e=.returned (.tuple #[.string ⟨a.toArray⟩,.string ⟨b.toArray⟩,.bool true])/\∃n,w'=w.drewN n:=by
 have o:=zh (Any.stringslite_Index_one sIdx ⟨l.toArray⟩ c w);obtain ⟨B,he⟩:=CL h;have d:Lib.indexByte (ByteArray.mk l.toArray).data.toList c=a.length:=B;rw [d] at o;have D:a.length+1<=l.length:=by rw [he];simp
 have z:=zh he;clear B d h he
 go_enter Tryz.func245,Tryz.ntmps245
 go_wp2_with fail
 refine o.out.mono ?_;rintro e w1 ⟨rfl,rfl⟩
 go_wp2_with fail
 go_quiet (fail)
 have e1:ByteArray.extract ⟨l.toArray⟩ 0 a.length=⟨a.toArray⟩:=by rw [ext_take,z.out];simp
 have e2:ByteArray.extract ⟨l.toArray⟩ (a.length+1) l.length=⟨b.toArray⟩:=by rw [ext_drop,z.out];simp
 rw [e1,e2]
 go_wp2_with fail
 exact El (by simp [results,Tryz.results245,go_sem]) rfl ⟨rfl,_,rfl⟩
theorem cut_no (w:World) (h:cutAt c l=none):Calls Tryz.prog 230 #[.string ⟨l.toArray⟩,.string ⟨#[c]⟩] w fun e w'=>e=.returned (.tuple #[.string ⟨l.toArray⟩,.string ⟨#[]⟩,.bool false])/\w=w':=by
 have d:=zh (lcut_no w h);clear h
 go_enter Tryz.func230,Tryz.ntmps230
 go_wp2_with fail
 refine d.out.mono ?_;rintro e w1 ⟨rfl,rfl⟩
 go_wp2_with fail
 exact El (by simp [results,Tryz.results230,go_sem]) rfl ⟨rfl,rfl⟩
theorem cut_yes (w:World) (h:cutAt c l=some (a,b)) (o:l.length<=9223372036854775000):Calls Tryz.prog 230 #[.string ⟨l.toArray⟩,.string ⟨#[c]⟩] w fun e w'=>e=.returned (.tuple #[.string ⟨a.toArray⟩,.string ⟨b.toArray⟩,.bool true])/\∃n,w'=w.drewN n:=by
 have d:=zh (lcut_yes w h o);clear h
 go_enter Tryz.func230,Tryz.ntmps230
 go_wp2_with fail
 refine d.out.mono ?_;rintro e w1 ⟨rfl,n,rfl⟩
 go_wp2_with fail
 exact El (by simp [results,Tryz.results230,go_sem]) rfl ⟨rfl,_,rfl⟩
abbrev AD (w:World) (r:Nat) (s:List UInt8×Bool):Prop:=ze w r 210 #[.string ⟨s.1.toArray⟩,.bool s.2]
theorem wNew_calls (l:List UInt8) (w:World):Calls Tryz.prog 82 #[.string ⟨l.toArray⟩] w fun e w'=>e=.returned (.pointer (some ⟨w.heap.size,0,none⟩))/\zb w w'/\AD w' w.heap.size (l,false):=by
 go_enter Tryz.func82,Tryz.ntmps82
 go_wp2_with fail
 go_ret;exact ⟨rfl,(zb.refl w).alloc _,ze.new _ _ _ rfl⟩
theorem Cm {s:List UInt8×Bool} (w:World) (h:AD w r s):Calls Tryz.prog 84 #[.pointer (some ⟨r,0,none⟩)] w fun e w'=>e=.returned (.bool s.2)/\w=w':=by
 have c1:=h.cell (k:=1) rfl;clear h
 go_enter Tryz.func84,Tryz.ntmps84
 go_wp2_with fail
 go_ret;exact ⟨rfl,rfl⟩
def Ah (s:List UInt8×Bool):Nat:=if s.2=true then 0 else s.1.length
theorem Dh {s:List UInt8×Bool} (w:World) (h:AD w r s):Calls Tryz.prog 85 #[.pointer (some ⟨r,0,none⟩)] w fun e w'=>e=.returned (.int .i64 (Ah s:Nat))/\w=w':=by
 have d:=zh (Cm w h);have c0:=h.cell (k:=0) rfl;obtain ⟨l,b⟩:=s;clear h;dsimp only at d c0
 cases b with
 | true=>
  go_enter Tryz.func85,Tryz.ntmps85
  go_wp2_with fail
  refine d.out.mono ?_;rintro e w1 ⟨rfl,rfl⟩
  go_wp2_with fail
  go_ret;exact ⟨rfl,rfl⟩
 | false=>
  go_enter Tryz.func85,Tryz.ntmps85
  go_wp2_with fail
  refine d.out.mono ?_;rintro e w1 ⟨rfl,rfl⟩
  go_wp2_with fail
  go_ret;exact ⟨rfl,rfl⟩
theorem CG {a b:World} (h:zi X a b) (g k:Nat) (v:Value) (o:X g):zi X a (b.setCell ⟨g,k,none⟩ v):=
 ⟨h.os,h.tape,h.output,Dt h.size (by simp [World.setCell]),fun i z d=>(DA b ⟨g,k,none⟩ v i (fun e=>d (e ▸ o))).trans (h.block i z d)⟩
theorem Dg (w:World) (h:ze w r 210 #[u,v]):Calls Tryz.prog 232 #[.pointer (some ⟨r,0,none⟩)] w fun e w'=>e=.returned (.tuple #[])/\zi (·=r) w w'/\AD w' r ([],true):=by
 have c0:=h.cell (k:=0) rfl;have c1:=h.cell (k:=1) rfl;have hf:∀k,w.frozen? ⟨r,k,none⟩=false:=fun k=>h.frozen k
 have H:=zh h;clear h
 go_enter Tryz.func232,Tryz.ntmps232
 go_wp2_with fail
 refine bodyPost_end (results_none rfl _ _ _) rfl ⟨rfl,CG (X:=(·=r)) (CG (zi.refl _ _) r 1 _ rfl) r 0 _ rfl,?_⟩;exact (H.out.set (k:=1) _).set (k:=0) _
def numP (c:UInt8) (l:List UInt8):Option (Int×List UInt8):=match cutAt c l with
 | none=>none
 | some (a,b)=>match Lib.atoiAll a with
  | .ok v=>if Lib.itoa v=a then some (v,b) else none
  | _=>none
theorem BC {a b:World} (h:zb a b):zi X a b:=zi.of_ext h
theorem chg_drew (w:World) (n:Nat):zi X w (w.drewN n):=zi.of_ext ((zb.refl w).drewN n)
def numS (c:UInt8) (s:List UInt8×Bool):Option (Int×List UInt8):=if s.2=true then none else numP c s.1
def NumPost (r:Nat) (o:Option (Int×List UInt8)) (w:World) (e:Ending) (w':World):Prop:=
 zi (·=r) w w'/\(∀v b,o=some (v,b)->e=.returned (.tuple #[.int .i64 v,.bool true])/\AD w' r (b,false))/\(o=none->e=.returned (.tuple #[.int .i64 0,.bool false])/\AD w' r ([],true))
def NumFr (r:Nat) (a:Act):Prop:=∃u1 u2 u3 u4 u5 u6 u7 u8 u9 u10 u11 u12 u13 u14 u15 u16 u17 u18 u19 u20 u21 u22 u23 u24 u25 u26 u27 u28 u29 u30 u31 u32 u33 u34 u35 u36 u37 u38 u39 u40:Value,a={ tmps:=#[.pointer (some ⟨r,0,none⟩),u1,u2,u3,u4,u5,u6,u7,u8,u9,u10,u11,u12,u13,u14,u15,u16,u17,u18,u19,u20,u21,u22,u23,u24,u25,u26,u27,u28,u29,u30,u31,u32,u33,u34,u35,u36,u37,u38,u39,u40],defers:=[] }
theorem var_chg (o:zi X w w') {n:String} (B:Tryz.prog.globalNamed n=some g) (z:¬ X g) {cs:Array Value} (h:w.var? Tryz.prog n=some cs):w'.var? Tryz.prog n=some cs:=by
 unfold World.var? at h⊢;rw [B] at h⊢;simp only [Option.bind_some] at h⊢
 split at h
 ·rename_i d
  rw [o.block g (lt_heap d) z,d];exact h
 ·cases h
theorem atoi_ok {v:Int} (w:World) (h:Lib.atoiAll a=.ok v) (d:a.length<=281474976710656):Calls Tryz.prog 231 #[.string ⟨a.toArray⟩] w fun e w'=>e=.returned (.tuple #[.int .i64 v,.nilIface])/\zb w w':=by
 refine (Any.strconv_Atoi_ok sAtoi ⟨a.toArray⟩ (by simp [ByteArray.size];omega) v h w).mono ?_;rintro e w' ⟨rfl,rfl | ⟨t,rfl⟩⟩
 ·exact ⟨rfl,zb.refl _⟩
 ·exact ⟨rfl,Lib.bytesWorld_below _ _ _⟩
theorem atoi_err (w:World) (B:zM w) (h:∀v,Lib.atoiAll a≠.ok v) (z:a.length<=281474976710656):Calls Tryz.prog 231 #[.string ⟨a.toArray⟩] w fun e w'=>∃n N,e=.returned (.tuple #[.int .i64 n,.iface 286 (.pointer (some ⟨N,0,none⟩))])/\zb w w':=by
 rcases d:Lib.atoiAll a with v | _ | _
 ·exact absurd d (h v)
 ·obtain ⟨tp,p,hp⟩:=B.syn;refine (Any.strconv_Atoi_syntax_var sAtoi ⟨a.toArray⟩ (by simpa [ByteArray.size] using z) d tp p w hp).mono ?_;rintro e w' ⟨N,rfl,-,-,o⟩;exact ⟨_,_,rfl,o⟩
 ·obtain ⟨tp,p,hp⟩:=B.rng;refine (Any.strconv_Atoi_range_var sAtoi ⟨a.toArray⟩ (by simpa [ByteArray.size] using z) d tp p w hp).mono ?_;rintro e w' ⟨N,rfl,-,-,o⟩;exact ⟨_,_,rfl,o⟩
def isVar (g : Nat) : Prop := ∃ n, (n = "internal/strconv.uint64pow10" ∨ n = "strconv.ErrSyntax" ∨ n = "strconv.ErrRange") ∧ Tryz.prog.globalNamed n = some g
theorem Bt (h:zM w) (hC:zi X w w') (hX:∀g,X g->¬ isVar g):zM w':=by
 have f : ∀ n, (n = "internal/strconv.uint64pow10" ∨ n = "strconv.ErrSyntax" ∨ n = "strconv.ErrRange") → ∀ cs, w.var? Tryz.prog n = some cs → w'.var? Tryz.prog n = some cs := fun n hn cs h => by
  cases hg:Tryz.prog.globalNamed n with
  | none=>unfold World.var? at h;rw [hg] at h;cases h
  | some g=>exact var_chg hC hg (fun hx=>hX g hx ⟨n,hn,hg⟩) h
 exact ⟨f _ (.inl rfl) _ h.tab,h.syn.imp fun _ ⟨p,h⟩=>⟨p,f _ (.inr (.inl rfl)) _ h⟩,h.rng.imp fun _ ⟨p,h⟩=>⟨p,f _ (.inr (.inr rfl)) _ h⟩⟩
theorem var_ne (h:zM w) (o:ze w r 210 #[u,v]):∀g,g=r->¬ isVar g:=by
 rintro g rfl ⟨n,B,z⟩
 have f:∀cs,w.var? Tryz.prog n=some cs->cs=#[u,v]:=fun cs h=>by
  unfold World.var? at h;rw [z] at h;have d:w.heap[g]?=some (.cells #[u,v] 210 (0,0)):=o;simp only [Option.bind_some,d] at h;injection h with h;exact h.symm
 rcases B with rfl | rfl | rfl
 ·have:=congrArg Array.size (f _ h.tab);simp [Lib.pow10Tab] at this
 ·obtain ⟨tp,p,h⟩:=h.syn;have:=congrArg Array.size (f _ h);simp at this
 ·obtain ⟨tp,p,h⟩:=h.rng;have:=congrArg Array.size (f _ h);simp at this
theorem number_calls {s:List UInt8×Bool} (c:UInt8) (w:World) (U:zM w) (h:AD w r s) (hl:s.1.length<=281474976710656):Calls Tryz.prog 204 #[.pointer (some ⟨r,0,none⟩),.string ⟨#[c]⟩] w (NumPost r (numS c s) w):=by
 have HB:=zh (Cm w h);have HR:=zh h;have HV:=zh U;obtain ⟨l,bad⟩:=s;have c0:=h.cell (k:=0) rfl;have hf:∀k,w.frozen? ⟨r,k,none⟩=false:=fun k=>h.frozen k
 dsimp only at HB HR c0 hl;clear h U
 go_enter Tryz.func204,Tryz.ntmps204
 go_wp2_with fail
 refine wp_scope_jumps 0 (fun a' w'=>NumFr r a'/\Hid (numS c (l,bad)=none)/\Hid (zi (·=r) w w'/\∃u v,ze w' r 210 #[u,v])) (fun _ _=>0) rfl ?_ ?_
 ·go_wp2_with fail
  refine HB.out.mono ?_;rintro e w1 ⟨rfl,rfl⟩
  cases bad with
  | true=>
   go_wp2_with fail
   go_step3
   exact ⟨rfl,⟨_,_,_,_,_,_,_,_,_,_,_,_,_,_,_,_,_,_,_,_,_,_,_,_,_,_,_,_,_,_,_,_,_,_,_,_,_,_,_,_,rfl⟩,rfl,zi.refl _ _,_,_,HR.out⟩
  | false=>
   cases Q:cutAt c l with
   | none=>
    have G:Hid (numS c (l,false)=none):=by (show numS c (l,false)=none);unfold numS numP;rw [Q];rfl
    have V:=zh (cut_no w Q);clear Q
    go_wp2_with fail
    refine V.out.mono ?_;rintro e w2 ⟨rfl,rfl⟩
    go_wp2_with fail
    go_step3
    exact ⟨rfl,⟨_,_,_,_,_,_,_,_,_,_,_,_,_,_,_,_,_,_,_,_,_,_,_,_,_,_,_,_,_,_,_,_,_,_,_,_,_,_,_,_,rfl⟩,G,CG (X:=(·=r)) (zi.refl _ _) r 0 _ rfl,_,_,HR.out.set (k:=0) _⟩
   | some p=>
    obtain ⟨a,b⟩:=p;have V:=zh (cut_yes w Q (by omega));have b6:a.length<=l.length:=by have:=(CL Q).2;rw [this];simp
    have G:Hid (numS c (l,false)=match Lib.atoiAll a with | .ok v=>if Lib.itoa v=a then some (v,b) else none | _=>none):=by
     (show numS c (l,false)=_);unfold numS numP;rw [Q];rfl
    clear Q
    go_wp2_with fail
    refine V.out.mono ?_;rintro e w2 ⟨rfl,n2,rfl⟩;have D:Hid (zi (·=r) w ((w.drewN n2).setCell ⟨r,0,none⟩ (.string ⟨b.toArray⟩))):=CG (X:=(·=r)) (chg_drew w n2) r 0 _ rfl;have I:Hid (AD ((w.drewN n2).setCell ⟨r,0,none⟩ (.string ⟨b.toArray⟩)) r (b,false)):=ze.set (k:=0) (show ze (w.drewN n2) r 210 _ from HR.out) (.string ⟨b.toArray⟩);have O:=zh (Bt HV.out D.out (var_ne HV.out HR.out));generalize a7:(w.drewN n2).setCell ⟨r,0,none⟩ (.string ⟨b.toArray⟩)=w3 at D I O
    go_wp2_with fail
    clear a7 HB c0 V hf HR;by_cases J:∃v,Lib.atoiAll a=.ok v
    ·obtain ⟨v,U⟩:=J;rw [U] at G;have a2:=Lib.atoiAll_bounds U;have B:=atoi_ok w3 U (by omega);clear U;refine B.mono ?_;rintro e w4 ⟨rfl,d⟩;have L:=zh (itoa_calls w4 (O.out.ext d) ⟨a2.1,a2.2⟩);have E:=zh d;by_cases hs:Lib.itoa v=a
     ·have z:Hid (numS c (l,false)=some (v,b)):=by (show _=_);rw [G.out];simp [hs]
      rw [hs] at L;clear B d hs G
      go_wp2_with fail
      refine L.out.mono ?_;rintro e w5 ⟨rfl,o⟩;have K:Hid (zi (·=r) w w5):=(D.out.ext_r E.out).ext_r o;have M:Hid (AD w5 r (b,false)):=(I.out.ext E.out).ext o;clear o
      go_wp2_with fail
      simp only [Exit.jump]
      go_ret2
      exact ⟨K.out,(fun v' b' h=>by rw [z.out] at h;injection h with h;injection h with h1 h2;subst h1 h2;exact ⟨rfl,M.out⟩),(fun h=>by rw [z.out] at h;cases h)⟩
     ·have z:Hid (numS c (l,false)=none):=by (show _=_);rw [G.out];simp [hs]
      have b7:(Lib.itoa v==a)=false:=by simp [hs]
      clear B d hs G
      go_wp2_with fail
      refine L.out.mono ?_;rintro e w5 ⟨rfl,o⟩;have K:Hid (zi (·=r) w w5):=(D.out.ext_r E.out).ext_r o;have M:Hid (AD w5 r (b,false)):=(I.out.ext E.out).ext o;clear o
      go_wp2_with fail
      go_step3
      exact ⟨rfl,⟨_,_,_,_,_,_,_,_,_,_,_,_,_,_,_,_,_,_,_,_,_,_,_,_,_,_,_,_,_,_,_,_,_,_,_,_,_,_,_,_,rfl⟩,z,K.out,_,_,M.out⟩
    ·have z:Hid (numS c (l,false)=none):=by
      (show _=_);rw [G.out]
      cases ha:Lib.atoiAll a with
      | ok v=>exact absurd ⟨v,ha⟩ J
      | _=>rfl
     have B:=atoi_err w3 O.out (fun v h=>J ⟨v,h⟩) (by omega);clear J G;refine B.mono ?_;rintro e w4 ⟨n,N,rfl,d⟩;have a4:Hid (zi (·=r) w w4):=D.out.ext_r d;have a5:Hid (AD w4 r (b,false)):=I.out.ext d;clear B d
     go_wp2_with fail
     go_step3
     exact ⟨rfl,⟨_,_,_,_,_,_,_,_,_,_,_,_,_,_,_,_,_,_,_,_,_,_,_,_,_,_,_,_,_,_,_,_,_,_,_,_,_,_,_,_,rfl⟩,z,a4.out,_,_,a5.out⟩
 ·rintro a' w' ⟨⟨u1,u2,u3,u4,u5,u6,u7,u8,u9,u10,u11,u12,u13,u14,u15,u16,u17,u18,u19,u20,u21,u22,u23,u24,u25,u26,u27,u28,u29,u30,u31,u32,u33,u34,u35,u36,u37,u38,u39,u40,rfl⟩,hn,hw⟩;obtain ⟨hC,u,v,hb⟩:=hw.out;have HF:=zh (Dg w' hb);have V:=zh hC;clear hC hb hw
  go_wp2_with fail
  refine HF.out.mono ?_;rintro e w1 ⟨rfl,a6,hr⟩
  go_wp2_with fail
  simp only [Exit.jump]
  go_ret2
  exact ⟨V.out.tr a6,(fun v b h=>by rw [hn.out] at h;cases h),fun _=>⟨rfl,hr⟩⟩
end
section
open Go.RowKit
attribute [local go_sem ↓] Go.wp_at_zero Go.wp_at_succ
theorem Tryz.infoPst:(Tryz.prog.info? 149).map (fun i=>(i.zero,i.size,i.bytes))=some (some (.pointer none),1,8):=by kernel_rfl
structure SR (w wr:World) (X Y:Nat->Prop) (g gr cap:Nat) (m:MZ) (s:RS) (pt:List Nat) (k:Nat) (b:Int):Prop where
 rt:Ad wr X Y g gr cap m ⟨s.ch.take k,s.done,s.steps+1⟩ pt
 chg:zi X w wr
 se:srch m s.ch k b=stepC m s.ch
def StepPost (w:World) (X Y:Nat->Prop) (g:Nat) (m:MZ) (s:RS) (e:Ending) (w':World):Prop:=
 e=.returned (.tuple #[])/\∃gr' cap' ptrs',Ad w' X Y g gr' cap' m (s.one m) ptrs'/\zi X w w'
theorem no_step {l:List Int} {b:Int} (h:∀n∈l.take i,¬ (b<n/\Ay m (ch++[n])=true)) (z:i<l.length) (d:¬ (b<l[i]/\Ay m (ch++[l[i]])=true)):∀n∈l.take (i+1),¬ (b<n/\Ay m (ch++[n])=true):=by
 intro n B;rcases (zx z n).1 B with o | rfl
 ·exact h n o
 ·exact d
theorem aft_of {l:List Int} {b n:Int} (B:l=cand m ch) (z:i<l.length) (D:n=l[i]) (h:∀n∈l.take i,¬ (b<n/\Ay m (ch++[n])=true)) (d:b<n) (o:Ay m (ch++[n])=true):aft m ch b=some n:=by
 subst B D;exact aft_at z h d o
theorem push_ok {w3 w4:World} {q:Nat} {pt:List Nat} {c:List Int} (z:Dl w4 (fun b=>(okR X Y g gr b/\b<w3.heap.size)\/w3.heap.size<=b) q m c) (B:zb w w3) (o:Ad w X Y g gr cap m s pt) (d:∀b,w.heap.size<=b->X b):Dl w4 (okR X Y g gr) q m c:=
 z.weaken fun b hb=>by
  rcases hb with hb | hb
  ·exact hb.1
  ·have D:g<w.heap.size:=za o.blk;have E:gr<w.heap.size:=(o.row.1.lt gr rfl).2;have G:=B.size;exact .inl ⟨d b (by omega),by omega,by omega⟩
theorem stepX_calls (w:World) (h:Ad w X Y g gr cap m s ptrs) (gd:zE m) (hl:Lens m) (hc:zr m s.ch) (i9:0<=s.steps) (j0:s.steps<=4000000000000000000)
  (e5:∀b,w.heap.size<=b->X b) (e7:∀b,Y b->b<w.heap.size):
  Calls Tryz.prog 94 #[.pointer (some ⟨g,0,none⟩)] w (StepPost w X Y g m s):=by
 obtain ⟨ch,dn,st⟩:=s;dsimp only at i9 j0 hc;have H:=zh h;have c0:w.cell? ⟨g,2,none⟩=some (.int .i64 st):=h.blk.cell (k:=2) rfl;have hf:=fun k=>h.blk.frozen k
 have GD:=zh gd;have HL:=zh hl;have HC:=zh hc;have e3:=zh e5;have h6:=zh e7;have j7:=hc.len300 gd;clear h gd hl hc e5 e7
 have e2:Hid (SR w (w.setCell ⟨g,2,none⟩ (.int .i64 (st+1))) X Y g gr cap m ⟨ch,dn,st⟩ ptrs ch.length (-1)):=by
  refine ⟨?_,chg_setg w H.out.xg 2 _,srch_top m ch⟩;have h1:=H.out.stepsTo (st+1);dsimp only at h1⊢;rw [DC];exact h1
 obtain ⟨i0,hi,f9,g0,g1⟩:=info_parts Tryz.infoPst;have IF:=zh hi;have IZ0:=zh f9;have IZ1:=zh g0;have IZ2:=zh g1;clear hi f9 g0 g1
 go_enter Tryz.func94,Tryz.ntmps94
 go_wp2_with fail
 go_step3
 go_wp2_with fail
 go_step3
 go_wp2_with fail
 clear c0 hf
 go_loopg [2] ch.length (fun gk v wr=>∃b pt,v=.int .i64 b/\gk<=ch.length/\Hid (SR w wr X Y g gr cap m ⟨ch,dn,st⟩ pt gk b))
 case atStart=>exact ⟨-1,ptrs,rfl,Dq _,e2⟩
 clear e2
 case round=>
  obtain ⟨b,pt,rfl,hk,U⟩:=hrel;obtain ⟨wo,rfl⟩:∃wo:World,wo=wr:=⟨_,rfl⟩;have d:=U.out.rt;obtain ⟨p,hp,a8,i2⟩:=d.row.last;have f4:(ch.take gk).length=gk:=by rw [Ej];omega
  have b5:=zh (last_c (w':=wo) d hp (by dsimp only;rw [f4];omega));have a4:=zh a8;dsimp only at a4;clear d hp a8 i2
  go_wp2_with fail
  refine b5.out.mono ?_;rintro e w1 ⟨rfl,a7⟩;have d4:zb wo w1:=a7.below _;clear a7
  go_wp2_with fail
  refine (BX _ (a4.out.ext d4) GD.out HL.out (HC.out.take gk)).mono ?_;rintro e w2 ⟨v2,rfl,a5⟩;obtain ⟨A2,c2,rfl,c0⟩:=a5.slice;have j1:zb wo w2:=d4.trans a5.ext;have i8:(cand m (ch.take gk)).length<=400000000000:=Cy HL.out _;have d8:=zh a5;clear a5 d4;obtain ⟨l,c6⟩:=Ez (cand m (ch.take gk));rw [<-c6] at d8 c0 i8⊢;have b6:=zh c6;clear c6
  go_wp2_with fail
  go_loopg [19] l.length (fun gi v wz=>∃i:Nat,v=.int .i64 i/\i<=l.length/\gi=l.length - i/\Hid (zb w2 wz/\∀n∈l.take i,¬ (b<n/\Ay m (ch.take gk++[n])=true)))
  case atStart=>exact ⟨0,rfl,DF _,rfl,zb.refl _,by simp⟩
  case round=>
   obtain ⟨i,rfl,hi,rfl,hZ⟩:=hrel;have hz:=hZ.out.1;have I:zb wo wr:=j1.trans hz;rcases DO i l.length with O | hge
   ·obtain ⟨bl,rfl,_,G⟩:=own_at d8.out.own O;obtain ⟨n,hn⟩:=Ez (l[i]);rw [<-hn] at G;have q0:=zb.rule G
    have c7:Hid (n∈cand m (ch.take gk)):=by
     show n∈_;rw [<-b6.out,hn];exact Dr _
    have HN:=zh hn;clear G hn;by_cases Q:n<=b
    ·have hd:decide (n<=b)=true:=Du Q;have b7:=zh Q;clear Q
     go_wp2_with fail
     go_roundg (l.length - (i+1))
     case measure=>omega
     case rel=>exact ⟨i+1,by go_num,O,rfl,hZ.out.1,no_step hZ.out.2 O (fun h=>by have:=b7.out;rw [<-HN.out] at h;omega)⟩
    ·have hd:decide (n<=b)=false:=Dv Q;have b7:=zh Q;clear Q
     go_wp2_with fail
     refine (with_c _ (a4.out.ext I) GD.out HL.out (HC.out.take gk) c7.out).mono ?_;rintro e w3 ⟨q,rfl,a9,hq⟩;have HQ:=zh hq;clear hq
     go_wp2_with fail
     refine (open_c w3 HQ.out GD.out HL.out (.snoc (HC.out.take gk) c7.out)).mono ?_;rintro e w4 ⟨rfl,a1⟩;obtain ⟨ob,c8⟩:=Ez (Ay m (ch.take gk++[n]));rw [<-c8];have e0:=zh c8;clear c8
     cases ob with
     | false=>
      have j2:zb w2 w4:=hz.trans (a9.trans a1);clear a9 a1
      go_wp2_with fail
      go_roundg (l.length - (i+1))
      case measure=>omega
      case rel=>exact ⟨i+1,by go_num,O,rfl,j2,no_step hZ.out.2 O (fun h=>by rw [<-HN.out,<-e0.out] at h;exact absurd h.2 (by simp))⟩
     | true=>
      have L:zb wo w4:=I.trans (a9.trans a1);have h5:=zh (push_ok (HQ.out.ext a1) I U.out.rt (fun b hb=>e3.out b (Dt U.out.chg.size hb)));have d:=U.out.rt.ext L;have M:w4.cell? ⟨g,0,none⟩=some (.slice (some ⟨gr,0,none⟩) pt.length cap):=d.blk.cell (k:=0) rfl;have hf:=fun k=>d.blk.frozen k
      have o:=zh d;clear d;have z:pt.length=gk+1:=by have:=o.out.row.2.1;dsimp only at this;omega
      have e1:=zh z;have j8:pt.length+1<=1000:=by omega
      clear a9 a1 hz I z
      go_wp2_with (at_builtin;refine wpList_append_own_at _ rfl _ _ 146 rfl 0 149 i0 (.pointer none) 1 8 Tryz.underlying146 IF.out IZ0.out IZ1.out IZ2.out rfl (by decide) (.slice (some ⟨gr,0,none⟩) pt.length cap) pt.length _ rfl (o.out.row.1.alloc _) ⟨w4.heap.size,0,none⟩ 1 1 [ptrV q] rfl rfl (cell_one_new _ _ _) (by simp [ptrV,Value.oneCell']) (by unfold maxLen;omega) (by omega) (DF _) ?_)
      intro v' w5 b2 hg _ f7;have e4:∀b,w4.heap.size<=b->X b:=fun b hb=>e3.out b (Dt U.out.chg.size (Dt L.size hb))
      have e6:∀b,Y b->b<w4.heap.size:=fun b hb=>DT (h6.out b hb) (Dt U.out.chg.size L.size)
      obtain ⟨gr',cap',rfl,b3,b1⟩:=o.out.push h5.out e4 e6 b2 hg f7;have E:w5.heap[g]?=w4.heap[g]?:=(hg.block g (by have:=za o.out.blk;simp;omega) (fun e=>o.out.ne (by injection e))).trans (DK _ _ _ (za o.out.blk));have h8:w5.cell? ⟨g,0,none⟩=some (.slice (some ⟨gr,0,none⟩) pt.length cap):=(DG E).trans M;have i3:w5.frozen? ⟨g,0,none⟩=false:=(DQ (a:=⟨g,0,none⟩) E).trans (hf 0);have g8:=zh ((U.out.chg.ext_r L).tr b1);have J:=zh b3;clear b2 hg f7 b3 b1 M hf E e4 e6
      go_wp2_with fail
      clear h8 i3;generalize w5.setCell ⟨g,0,none⟩ (.slice (some ⟨gr',0,none⟩) (pt.length+1) cap')=w6 at*;have f5:(ch.take gk++[n]).length=pt.length:=by have:=e1.out;simp;omega
      have c9:(pt++[q])[(ch.take gk++[n]).length]?=some q:=by rw [f5];simp
      have b4:Dl w6 (okR X Y g gr') q m (ch.take gk++[n]):=by
       have:=J.out.row.2.2 _ q c9
       rwa [DC] at this
      refine (last_c (w':=w6) J.out c9 (by show (ch.take gk++[n]).length<=1000;omega)).mono ?_;rintro e w7 ⟨rfl,f1⟩;have D:zb w6 w7:=f1.below _;clear f1 f5 c9
      go_wp2_with fail
      refine (CK w7 (b4.ext D) GD.out HL.out (.snoc (HC.out.take gk) c7.out)).mono ?_;rintro e w8 ⟨rfl,f2⟩;have a2:zb w6 w8:=D.trans (f2.below _);clear f2 D b4;have K:=J.out.ext a2;have h9:w8.cell? ⟨g,1,none⟩=some (.bool dn):=K.blk.cell (k:=1) rfl;have i4:w8.frozen? ⟨g,1,none⟩=false:=K.blk.frozen 1
      have B:StepPost w X Y g m ⟨ch,dn,st⟩ (.returned (.tuple #[])) (w8.setCell ⟨g,1,none⟩ (.bool (zL m (ch.take gk++[n])))):=by
       refine ⟨rfl,gr',cap',pt++[q],?_,(g8.out.ext_r a2).tr (chg_setg _ J.out.xg 1 _)⟩;have h1:=K.done (zL m (ch.take gk++[n]))
       have h2:stepC m ch=some (ch.take gk++[n]):=by
        have h3:=U.out.se;dsimp only at h3;rw [<-h3];unfold srch;rw [aft_of b6.out O HN.out hZ.out.2 (by have:=b7.out;omega) e0.out.symm]
       show Ad _ X Y g gr' cap' m (RS.one m ⟨ch,dn,st⟩) _;unfold RS.one;dsimp only;rw [h2];exact h1
      have V:=zh B;clear B K
      go_wp2_with fail
      try rw [Exit.noGoto_ret]
      refine El (results_none rfl _ _ _) rfl ?_;exact V.out
   ·have i7:i=l.length:=by omega
    subst i7;have d5:Hid (aft m (ch.take gk) b=none):=aft_none b6.out (by have:=hZ.out.2;rwa [DC] at this);have d:=U.out.rt.ext I;have M:wr.cell? ⟨g,0,none⟩=some (.slice (some ⟨gr,0,none⟩) pt.length cap):=d.blk.cell (k:=0) rfl;have h7:wr.cell? ⟨g,1,none⟩=some (.bool dn):=d.blk.cell (k:=1) rfl;have hf:=fun k=>d.blk.frozen k
    have z:pt.length=gk+1:=by have:=d.row.2.1;dsimp only at this;omega
    have j5:=Be d.row.1;have o:=zh d;clear d;have e1:=zh z;have d6:=zh (U.out.chg.ext_r I);clear hZ hz
    cases gk with
    | zero=>
     have a7:((pt.length:Int)==1)=true:=by rw [beq_iff_eq];omega
     have B:StepPost w X Y g m ⟨ch,dn,st⟩ (.returned (.tuple #[])) (wr.setCell ⟨g,1,none⟩ (.bool true)):=by
      refine ⟨rfl,gr,cap,pt,?_,d6.out.tr (chg_setg _ o.out.xg 1 _)⟩;have h1:=o.out.done true
      have h2:stepC m ch=none:=by
       have h3:=U.out.se;dsimp only at h3;rw [<-h3];exact srch_zero d5.out
      show Ad _ X Y g gr cap m (RS.one m ⟨ch,dn,st⟩) _;unfold RS.one;dsimp only;rw [h2];exact h1
     have V:=zh B;clear B z
     go_wp2_with fail
     try rw [Exit.noGoto_ret]
     refine El (results_none rfl _ _ _) rfl ?_;exact V.out
    | succ j=>
     have a7:((pt.length:Int)==1)=false:=by rw [DE];omega
     have a8:=a4.out.ext I;obtain ⟨us,f,u,t,vc,vp,gu,_,h2⟩:=a8;obtain ⟨_,_,_,_,_,_,r6,_,_⟩:=h2.rules;have f0:=h2.ch;clear h2;obtain ⟨Ac,cc,rfl,i1,f6⟩:=f0;obtain ⟨bc,oc,rfl,_,a6⟩:=Ao f6 (k:=j) (by omega) (by omega);rw [List.getElem_take] at a6;obtain ⟨N,hN⟩:=Ez ((ch.take (j+1)).length);rw [<-hN] at i1 r6;rw [f4] at hN;obtain ⟨cj,a0⟩:=Ez (ch[j]);rw [<-a0] at a6;have g9:=zh a0;have rj:=zb.rule a6;have k6:(0:Int)<=(j:Int):=by omega
     have k7:(j:Int)<(N:Int):=by omega
     have k8:IntKind.i64.wrap ((N:Int) - 1)=(j:Int):=by rw [DN];omega
     have k4:IntKind.i64.wrap ((pt.length:Int) - 1)=(N:Int):=by rw [DN];omega
     have j4:wrap64 ((pt.length:Int) - 1)=(N:Int):=by rw [IntWalk.wrap64_in _ (by omega)];omega
     have k1:(0:Int)<=(N:Int):=by omega
     have k2:(N:Int)<=(pt.length:Int):=by omega
     have k3:(N:Int)<=(cap:Int):=by omega
     have k9:=zb.refl wr;have d9:=zh hN;clear a6 f6 a0 z hN
     go_wp2_with fail
     go_quiet (fail)
     generalize f8:wr.drewN nq=w7;have D:zb wr w7:=by rw [<-f8];exact (zb.refl wr).drewN _
     have e9:w7.cell? ⟨g,0,none⟩=some (.slice (some ⟨gr,0,none⟩) pt.length cap):=D.cell M;have f3:w7.frozen? ⟨g,0,none⟩=false:=(Below.frozen D (p:=⟨g,0,none⟩) (zn M)).trans (hf 0);clear f8 M hf h7
     go_wp2_with fail
     go_still_tail 14,(by kernel_rfl)
     change wpList _ _ _ _ _ w7.drew;have a2:zb wr w7.drew:=D.drew;have h9:w7.drew.cell? ⟨g,0,none⟩=some (.slice (some ⟨gr,0,none⟩) pt.length cap):=e9;have i4:w7.drew.frozen? ⟨g,0,none⟩=false:=f3;generalize w7.drew=w8 at*;clear e9 f3 D
     go_wp2_with fail
     go_roundg j
     case measure=>omega
     case rel=>
      refine ⟨cj,pt.take (j+1),rfl,by omega,?_,?_,?_⟩
      ·have h1:=(o.out.ext a2).pop (k:=j) (by show j<=(ch.take (j+1)).length;omega);dsimp only at h1;rw [List.take_take,Nat.min_eq_left (by omega),<-d9.out] at h1;rw [<-d9.out];exact h1
      ·exact (d6.out.ext_r a2).tr (chg_setg _ o.out.xg 0 _)
      ·have h3:=U.out.se;dsimp only at h3⊢;rw [<-h3,srch_back d5.out,g9.out,Dp,Do (by omega),DW]
theorem one_isCh (h:zr m s.ch):zr m (s.one m).ch/\(s.one m).steps=s.steps+1:=by
 unfold RS.one
 split
 ·rename_i c d;exact ⟨(stepC_some h d).1,rfl⟩
 ·exact ⟨.nil,rfl⟩
theorem run_isCh {m:MZ}:∀(n:Nat) {s:RS},zr m s.ch->zr m (RS.run m n s).ch
 | 0,s,h=>h
 | n+1,s,h=>by
  unfold RS.run
  split
  ·exact h
  ·exact run_isCh n (one_isCh h).1
theorem run_steps {m:MZ}:∀(n:Nat) {s:RS},zr m s.ch->s.steps<=(RS.run m n s).steps/\(RS.run m n s).steps<=s.steps+n
 | 0,s,h=>⟨Int.le_refl _,by simp [RS.run]⟩
 | n+1,s,h=>by
  unfold RS.run
  split
  ·exact ⟨Int.le_refl _,by omega⟩
  ·have d:=one_isCh h;have o:=run_steps n d.1;omega
structure RunR (w wr:World) (X Y:Nat->Prop) (g gr cap:Nat) (m:MZ) (s0:RS) (n:Nat) (s:RS) (pt:List Nat) (k:Nat):Prop where
 rt:Ad wr X Y g gr cap m s pt
 chg:zi X w wr
 run:RS.run m k s=RS.run m n s0
 ch:zr m s.ch
 st:0<=s.steps/\s.steps+k<=4000000000000000000
def RunPost (w:World) (X Y:Nat->Prop) (g:Nat) (m:MZ) (s:RS) (e:Ending) (w':World):Prop:=
 e=.returned (.bool s.done)/\∃gr' cap' ptrs',Ad w' X Y g gr' cap' m s ptrs'/\zi X w w'
theorem stepN_calls (n:Nat) (w:World) (h:Ad w X Y g gr cap m s ptrs) (gd:zE m) (hl:Lens m) (hc:zr m s.ch) (hn:n<=1000000) (O:0<=s.steps) (a7:s.steps<=3000000000000000000)
  (K:∀b,w.heap.size<=b->X b) (L:∀b,Y b->b<w.heap.size):
  Calls Tryz.prog 38 #[.pointer (some ⟨g,0,none⟩),.int .i64 n] w (RunPost w X Y g m (RS.run m n s)):=by
 have H0:Hid (RunR w w X Y g gr cap m s n s ptrs n):=⟨h,zi.refl _ _,rfl,hc,O,by omega⟩;have GD:=zh gd;have HL:=zh hl;have U:=zh K;have V:=zh L;have a3:w.cell? ⟨g,0,none⟩=some (.slice (some ⟨gr,0,none⟩) ptrs.length cap):=h.blk.cell (k:=0) rfl;have a6:ptrs.length=s.ch.length+1:=h.row.2.1;have a1:((ptrs.length:Int)==0)=false:=by rw [DE];omega
 obtain ⟨R,o⟩:=Ez (RS.run m n s);rw [<-o];have HR:=zh o;clear h gd hl hc K L O a7 a6 o
 go_enter Tryz.func38,Tryz.ntmps38
 go_wp2_with fail
 clear a3 a1
 go_loopg [1] n (fun gk v wr=>∃gr cap s' pt,v=.int .i64 gk/\gk<=n/\Hid (RunR w wr X Y g gr cap m s n s' pt gk))
 case atStart=>exact ⟨gr,cap,s,ptrs,rfl,Dq _,H0⟩
 clear H0
 case round=>
  obtain ⟨gr,cap,s',pt,rfl,b5,o⟩:=hrel;have J:=o.out.rt;have M:wr.cell? ⟨g,1,none⟩=some (.bool s'.done):=J.blk.cell (k:=1) rfl;have G:=zh J;clear J;obtain ⟨d,hd⟩:=Ez s'.done;rw [<-hd] at M;have Q:=zh hd;clear hd
  cases gk with
  | zero=>
   have a5:decide ((0:Int)<((0:Nat):Int))=false:=by simp
   have z:RunPost w X Y g m R (.returned (.bool d)) wr:=by
    have I:=o.out.run;rw [<-HR.out] at I;rw [<-I,Q.out];exact ⟨rfl,gr,cap,pt,G.out,o.out.chg⟩
   have B:=zh z;clear z
   go_wp2_with fail
   go_ret;exact B.out
  | succ k=>
   have a5:decide ((0:Int)<((k+1:Nat):Int))=true:=Du (by omega);have b2:(0:Int)<((k+1:Nat):Int):=by omega
   cases d with
   | true=>
    have z:RunPost w X Y g m R (.returned (.bool true)) wr:=by
     have I:=o.out.run;rw [RS.run_done Q.out.symm,<-HR.out] at I;rw [<-I];exact ⟨by rw [<-Q.out],gr,cap,pt,G.out,o.out.chg⟩
    have B:=zh z;clear z
    go_wp2_with fail
    go_ret;exact B.out
   | false=>
    go_wp2_with fail
    refine (stepX_calls wr G.out GD.out HL.out o.out.ch o.out.st.1 (by have:=o.out.st.2;omega) (fun b hb=>U.out b (Dt o.out.chg.size hb)) (fun b hb=>DT (V.out b hb) o.out.chg.size)).mono ?_;rintro e w5 ⟨rfl,gr',cap',pt',E,D⟩
    have HN:Hid (RunR w w5 X Y g gr' cap' m s n (s'.one m) pt' k):=by
     have I:=one_isCh o.out.ch;have h2:=o.out.st;have h3:=o.out.run;unfold RS.run at h3;rw [<-Q.out,if_neg (by simp)] at h3;exact ⟨E,o.out.chg.tr D,h3.trans (by cases n <;> rfl),I.1,by omega⟩
    clear E D M
    go_wp2_with fail
    go_roundg k
    case measure=>omega
    case rel=>exact ⟨gr',cap',_,pt',by go_num,by omega,HN⟩
structure FL (w wr:World) (v:Value) (vs:List Value) (l:List (List Int)):Prop where
 ext:zb w wr
 own:Bz wr w.heap.size v vs
 len:vs.length=l.length
 each:∀(j:Nat) x,l[j]?=some x->∃u,vs[j]?=some u/\zt wr w.heap.size u x
theorem FL.nil (w wr:World) (h:zb w wr):FL w wr (.slice none 0 0) [] []:=⟨h,World.ownsRow_nil _ _ _ _,rfl,fun j x h=>by simp at h⟩
theorem FL.more {l:List (List Int)} (h:FL w wr v vs l) (d:zb wr w'):FL w w' v vs l:=by
 have o:wr.grownBy w' none:=⟨d.os,d.tape,d.output,d.size,fun i z _=>d.block i z⟩;refine ⟨h.ext.trans d,h.own.kept o (by cases h:v.ownBlock <;> simp),h.len,fun j x B=>?_⟩;obtain ⟨u,E,D⟩:=h.each j x B;exact ⟨u,E,D.kept o (by cases h:u.ownBlock <;> simp)⟩
theorem own_neT {B B':Nat} {e e':TypeId} {sz sz' n n':Nat} {xs xs':List Value} (h:w.ownsRow B e sz v n xs) (D:w.ownsRow B' e' sz' v' n' xs') (z:e≠e'):v.ownBlock=none\/v.ownBlock≠v'.ownBlock:=by
 rcases h.2 with ⟨rfl,_⟩ | ⟨g,cap,cur,rfl,_,hh,_⟩
 ·left;rfl
 ·right
  rcases D.2 with ⟨rfl,_⟩ | ⟨g',cap',cur',rfl,_,d,_⟩
  ·simp [Value.ownBlock]
  ·intro he;have o:g=g':=by simpa [Value.ownBlock] using he
   subst o;rw [hh] at d;injection d with d;injection d with _ ht;exact z ht
theorem FL.app {l:List (List Int)} {x:List Int} {o:Obj} (h:FL w wr v vs l) (K:zt wr w.heap.size u x) (J:w'.ownsRow w.heap.size 23 1 v' (vs.length+1) (vs++[u])) (G:(wr.alloc o).grownBy w' v.ownBlock):FL w w' v' (vs++[u]) (l++[x]):=by
 have I:zb wr (wr.alloc o):=(zb.refl _).alloc _;have h1:=h.more I;have B:∀{u':Value} {x':List Int},zt wr w.heap.size u' x'->zt w' w.heap.size u' x':=fun d=>(World.ownsRow.alloc d o).kept G (own_neT d h.own (by decide))
 refine ⟨Ab h1.ext G h1.ext.size (fun k B=>(h1.own.lt k B).1),?_,by simp [h.len],fun j y z=>?_⟩
 ·show w'.ownsRow _ _ _ _ (vs++[u]).length _;rw [Dz,DR];exact J
 ·rcases DO j l.length with hjl | hjl
  ·rw [Dw hjl] at z;obtain ⟨u',d,E⟩:=h.each j y z;exact ⟨u',by rw [Dw (by rw [h.len];exact hjl)];exact d,B E⟩
  ·have D:j=l.length:=by
    rcases DO j (l++[x]).length with h1 | h1
    ·simp at h1;omega
    ·rw [DL h1] at z;cases z
   subst D;rw [Dx (Dq _)] at z;have L:x=y:=by simpa using z
   subst L;exact ⟨u,by rw [<-h.len,Dx (Dq _)];simp,B K⟩
theorem FL.intss {l:List (List Int)} (h:FL w wr v vs l):zU wr (fun b=>w.heap.size<=b) v l:=
 ⟨vs,by rw [<-h.len];exact Aw.of_own h.own,fun j x d=>by
  obtain ⟨u,z,o⟩:=h.each j x d;exact ⟨u,z,Aw.of_own o⟩⟩
def foundL (m:MZ) (ch:List Int):List (List Int):=if zL m ch=true then zC m ch else []
def BZ (w:World) (m:MZ) (ch:List Int) (e:Ending) (w':World):Prop:=
 ∃v,e=.returned (.tuple #[v,.bool (zL m ch)])/\zb w w'/\zU w' (fun b=>w.heap.size<=b) v (foundL m ch)
theorem found_c (w:World) (h:Ad w X Y g gr cap m s ptrs) (gd:zE m) (hl:Lens m) (V:zr m s.ch):
  Calls Tryz.prog 39 #[.pointer (some ⟨g,0,none⟩)] w (BZ w m s.ch):=by
 obtain ⟨p,hp,a8,d6⟩:=h.row.last;have hn:=V.len300 gd;have b8:=zh (last_c (w':=w) h hp (by omega));have c0:Hid (∀w2,zb w w2->Calls Tryz.prog 95 #[.pointer (some ⟨g,0,none⟩)] w2 fun e w'=>e=.returned (.pointer (some ⟨p,0,none⟩))/\zB w2 w'):=fun w2 hE=>last_c (w':=w2) (h.ext hE) hp (by omega)
 have e7:w.cell? ⟨g,0,none⟩=some (.slice (some ⟨gr,0,none⟩) ptrs.length cap):=h.blk.cell (k:=0) rfl;have L:ptrs.length=s.ch.length+1:=h.row.2.1;have d5:((ptrs.length:Int)==0)=false:=by rw [DE];omega
 have U:=zh a8;have GD:=zh gd;have HL:=zh hl;have HC:=zh V;obtain ⟨i0,hi,b1,b2,b3⟩:=info_parts Tryz.infoInts;have IF:=zh hi;have IZ0:=zh b1;have IZ1:=zh b2;have IZ2:=zh b3;clear hi b1 b2 b3;clear h gd hl V L hp d6 a8 hn;obtain ⟨cb,a0⟩:=Ez (zL m s.ch);have o:=zh a0;clear a0
 go_enter Tryz.func39,Tryz.ntmps39
 go_wp2_with fail
 refine b8.out.mono ?_;rintro e w1 ⟨rfl,a1⟩;have Q:zb w w1:=a1.below _;clear a1
 go_wp2_with fail
 refine (CK w1 (U.out.ext Q) GD.out HL.out HC.out).mono ?_;rintro e w2 ⟨rfl,a2⟩;have I:zb w w2:=Q.trans (a2.below _);rw [<-o.out];clear a2 Q d5
 cases cb with
 | false=>
  have d:BZ w m s.ch (.returned (.tuple #[.slice none 0 0,.bool false])) w2:=⟨_,by rw [o.out],I,by unfold foundL;rw [<-o.out];exact zU.nil _ _⟩;have z:=zh d;clear d
  go_wp2_with fail
  go_ret2
  exact z.out
 | true=>
  go_wp2_with fail
  refine (c0.out w2 I).mono ?_;rintro e w3 ⟨rfl,a3⟩;have e0:zb w w3:=I.trans (a3.below _);clear a3 I;obtain ⟨us,f,u,t,vc,vp,gu,_,G⟩:=U.out;obtain ⟨_,_,_,_,_,_,_,r7,_⟩:=G.rules;have M:=G.ps;clear G;have a6:Hid (∀p∈zC m s.ch,p.length<=1000):=(HC.out.sok GD.out HL.out).pp;have L:(zC m s.ch).length<=6:=by have:=(HC.out.sok GD.out HL.out).pl;have:=GD.out.tk;omega
  obtain ⟨ps,E⟩:=Ez (zC m s.ch);rw [<-E] at M a6 L;have c7:=zh E;clear E;have HP:=zh M;obtain ⟨vs,⟨Ap,cp,rfl,e8,a7⟩,a4⟩:=M;have c8:=zh a7;have b6:=zh a4;clear a7 a4;have H0:=zh (FL.nil w w3 e0)
  go_wp2_with fail
  go_loopg [4,29] ps.length (fun gk v vi wr=>∃(i:Nat) (vs:List Value),vi=.int .i64 i/\i<=ps.length/\gk=ps.length - i/\Hid (FL w wr v vs (ps.take i)))
  case atStart=>exact ⟨0,[],rfl,DF _,rfl,H0⟩
  clear H0
  case round=>
   obtain ⟨i,vl,rfl,hi,rfl,hF⟩:=hrel;have b0:=hF.out.ext;rcases DO i ps.length with D | hge
   ·obtain ⟨bp,op,up,rfl,_,B,a9⟩:=BU c8.out b6.out D D;have q0:=zb.rule B;clear B;have a5:=a6.out _ (Dr D);have c9:=zh a9;clear a9
    obtain ⟨As,cs,rfl,e9⟩:∃A c,u4=.slice A vl.length c/\vl.length<=c:=by
     obtain ⟨A,c,e,V,_⟩:=Aw.of_own hF.out.own;exact ⟨A,c,e,V⟩
    have O:=hF.out.len;have b9:=zh a5;clear a5;have e5:=zh O;have e4:vl.length<=6:=by rw [O,Ej];omega
    clear O
    go_wp2_with fail
    refine (Bc _ (c9.out.below b0) (by have:=b9.out;omega)).mono ?_;rintro e w4 ⟨v4,rfl,hM⟩;have K:=zh (hF.out.more hM.ext);have c6:Hid (zt w4 w.heap.size v4 ps[i]):=World.ownsRow.mono hM.own b0.size;obtain ⟨A4,c4,rfl,_⟩:=hM.slice;have f1:w.heap.size<=w4.heap.size:=K.out.ext.size;clear hM
    go_wp2_with (at_builtin;refine wpList_append_own_at _ rfl _ _ 22 rfl w.heap.size 23 i0 (.slice none 0 0) 1 24 Tryz.underlying22 IF.out IZ0.out IZ1.out IZ2.out rfl (by decide) (.slice As vl.length cs) vl.length _ rfl (K.out.own.alloc _) ⟨w4.heap.size,0,none⟩ 1 1 [.slice A4 ps[i].length c4] rfl rfl (cell_one_new _ _ _) (by simp [Value.oneCell']) (by unfold maxLen;omega) (by omega) (by simp;omega) ?_)
    intro v' w5 J hg _ d9;have d4:=zh (K.out.app c6.out J hg);clear J hg d9
    go_wp2_with fail
    go_roundg (ps.length - (i+1))
    case measure=>omega
    case rel=>exact ⟨i+1,_,by go_num,D,rfl,by rw [Dy D];exact d4⟩
   ·have d8:i=ps.length:=by omega
    subst d8
    have d:BZ w m s.ch (.returned (.tuple #[u4,.bool true])) wr:=by
     refine ⟨u4,by rw [o.out],hF.out.ext,?_⟩;unfold foundL;rw [<-o.out,if_pos rfl,<-c7.out];have:=hF.out.intss
     rwa [DC] at this
    have z:=zh d;clear d
    go_wp2_with fail
    go_ret2
    exact z.out
end
section
open Go.RowKit
def drawV (l:List Int) (k:Nat) (n:Int):Int:=if h:k<l.length then l[k] % n else 0
def drawK (l:List Int) (k:Nat):Nat:=if k<l.length then k+1 else k
theorem draw_calls {ok:Nat->Prop} {l:List Int} (gd k:Nat) (n:Int) (w:World) (I:ze w gd 163 #[v,.int .i64 k]) (h:zk w ok v l) (hg:¬ ok gd) (hl:l.length<=9223372036854775807) (hk:k<=l.length) (hn:0<n) (a2:n<=1000000):
  Calls Tryz.prog 105 #[.pointer (some ⟨gd,0,none⟩),.int .i64 n] w fun e w'=>e=.returned (.int .i64 (drawV l k n))/\ze w' gd 163 #[v,.int .i64 (drawK l k)]/\w.grownBy w' (some gd):=by
 obtain ⟨A,c,rfl,hc,hr⟩:=h;have J:=I.cell (k:=0) rfl;have K:=I.cell (k:=1) rfl;have hx:=zb.refl w;by_cases z:k<l.length
 ·obtain ⟨b,off,rfl,a4,d⟩:=Ao hr z z;have V:b≠gd:=fun e=>hg (e ▸ a4)
  have M:drawV l k n=l[k] % n:=by unfold drawV;rw [dif_pos z]
  have E:drawK l k=k+1:=by unfold drawK;rw [if_pos z]
  rw [M,E];clear M E hr;obtain ⟨x,O⟩:=Ez (l[k]);rw [<-O] at d⊢;clear O;have hf:=I.frozen 1;have U:=zh I;clear I;have hd:decide ((l.length:Int)<=(k:Int))=false:=Dv (by omega)
  go_enter Tryz.func105,Tryz.ntmps105
  go_wp2_with fail
  go_quiet (fail)
  generalize L:w.drewN nq=w1;have a0:zB w w1:=⟨nq,L.symm⟩;have D:zb w w1:=a0.below _;have hh:w1.heap=w.heap:=by rw [<-L];rfl
  clear L J K hf;have B:ze w1 gd 163 #[.slice (some ⟨b,off,none⟩) l.length c,.int .i64 k]:=U.out.ext D;have J:=B.cell (k:=0) rfl;have K:=B.cell (k:=1) rfl;have hf:=B.frozen 1;have o:=D.cell d;have G:Hid (ze (w1.setCell ⟨gd,1,none⟩ (.int .i64 ((k:Int)+1))) gd 163 #[.slice (some ⟨b,off,none⟩) l.length c,.int .i64 ((k:Int)+1)]):=B.set (k:=1) _;have Q:(w1.setCell ⟨gd,1,none⟩ (.int .i64 ((k:Int)+1))).cell? ⟨b,off+k,none⟩=some (.int .i64 x):=(DG (w:=w1) (DA w1 _ _ b V)).trans o;have HG:Hid (w.grownBy (w1.setCell ⟨gd,1,none⟩ (.int .i64 ((k:Int)+1))) (some gd)):=⟨D.os,D.tape,D.output,by simp [hh],fun i hi a3=>by rw [DA w1 _ _ i (fun e=>a3 (by rw [e])),hh]⟩;have a6:=G.out.cell (k:=0) rfl;have a7:=G.out.cell (k:=1) rfl;clear B d;go_upto_region 4 with fail;generalize w1.setCell ⟨gd,1,none⟩ (.int .i64 ((k:Int)+1))=w2 at*;clear J K hf o;have b3:=zb.refl w2;have b1:(k:Int)<(l.length:Int):=by omega
  go_quiet ((go_at_call 41;refine (mod_calls x n _ hn a2).mono ?_;rintro e w9 ⟨a1,rfl⟩;exact ⟨a1,⟨_,rfl⟩⟩))
  go_wp2;go_ret;refine ⟨rfl,G.out.ext ((zb.refl w2).drewN _),?_⟩;have h:=HG.out;exact ⟨h.os,h.tape,h.output,h.size,h.block⟩
 ·have M:drawV l k n=0:=by unfold drawV;rw [dif_neg z]
  have E:drawK l k=k:=by unfold drawK;rw [if_neg z]
  rw [M,E];clear M E hr;have U:=zh I;clear I;have hd:decide ((l.length:Int)<=(k:Int))=true:=Du (by omega)
  go_enter Tryz.func105,Tryz.ntmps105
  go_wp2_with fail
  go_quiet (fail)
  go_wp2;go_ret;exact ⟨rfl,U.out,⟨rfl,rfl,rfl,Dq _,fun _ _ _=>rfl⟩⟩
end
end Go.Proofs.YtnmkmhpgnpojbaaGreatDoor
