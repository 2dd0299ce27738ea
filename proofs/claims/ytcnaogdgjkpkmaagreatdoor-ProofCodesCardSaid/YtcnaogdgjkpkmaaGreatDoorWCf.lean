import Derived.Test.YtcnaogdgjkpkmaaGreatDoorWCe
import Derived.KernelRfl
import Derived.Deep.AppendLies
set_option linter.unusedVariables false
set_option linter.unusedSimpArgs false
set_option maxRecDepth 100000
set_option maxHeartbeats 16000000
namespace Go.Proofs.YtcnaogdgjkpkmaaGreatDoor
variable {cs:Array Value} {z:Int} {S acc ch:List Int} {a l:List UInt8} {xs:List Value} {B n r sz:Nat} {X Y okc:Nat->Prop} {c:UInt8} {u v vc:Value} {b w w':World}
section
open Go.RowKit Go.Shelf
attribute [local go_sem ↓] Go.wp_at_zero Go.wp_at_succ
def AP (c:UInt8):List UInt8->Option (List UInt8×List UInt8)
 | []=>none
 | b :: l=>if b==c then some ([],l) else (AP c l).map fun p=>(b :: p.1,p.2)
theorem cutAt_none {c:UInt8}:∀{l:List UInt8},AP c l=none->Lib.indexByte l c=-1
 | [],_=>rfl
 | b :: l,h=>by
  unfold AP at h;unfold Lib.indexByte
  split at h
  ·cases h
  ·rename_i d
   rw [Option.map_eq_none_iff] at h;rw [if_neg d,cutAt_none h];rfl
theorem Bm {c:UInt8}:∀{l a b:List UInt8},AP c l=some (a,b)->Lib.indexByte l c=a.length/\l=a++c :: b
 | [],a,b,h=>by cases h
 | x :: l,a,b,h=>by
  unfold AP at h;unfold Lib.indexByte
  split at h
  ·rename_i d
   injection h with h;injection h with h1 h2;subst h1 h2;rw [if_pos d,(beq_iff_eq.1 d)];exact ⟨rfl,rfl⟩
  ·rename_i d
   obtain ⟨p,hp,e⟩:=Option.map_eq_some_iff.1 h;injection e with h1 h2;subst h1 h2;obtain ⟨o,D⟩:=Bm (a:=p.1) (b:=p.2) hp;rw [if_neg d,o,if_neg (by simp),D];exact ⟨by simp,rfl⟩
theorem ext_take (l:List UInt8) (n:Nat):(ByteArray.mk l.toArray).extract 0 n=⟨(l.take n).toArray⟩:=by
 apply ByteArray.ext;simp [ByteArray.data_extract]
theorem ext_drop (l:List UInt8) (n:Nat):(ByteArray.mk l.toArray).extract n l.length=⟨(l.drop n).toArray⟩:=by
 apply ByteArray.ext;simp [ByteArray.data_extract];exact List.take_of_length_le (by simp)
theorem lcut_no (w:World) (h:AP c l=none):Calls Tryz.prog 151 #[.string ⟨l.toArray⟩,.string ⟨#[c]⟩] w fun e w'=>e=.returned (.tuple #[.string ⟨l.toArray⟩,.string ⟨#[]⟩,.bool false])/\w=w':=by
 have o:=zh (Any.stringslite_Index_one sIdx ⟨l.toArray⟩ c w);have D:=cutAt_none h;have d:Lib.indexByte (ByteArray.mk l.toArray).data.toList c=-1:=D;rw [d] at o;clear D d h
 go_enter Tryz.func151,Tryz.ntmps151
 go_wp2_with fail
 refine o.out.mono ?_;rintro e w1 ⟨rfl,rfl⟩
 go_wp2_with fail
 exact DM (by simp [results,Tryz.results151,go_sem]) rfl ⟨rfl,rfl⟩
theorem lcut_yes {b:List UInt8} (w:World) (h:AP c l=some (a,b)) (I:l.length<=9223372036854775000):Calls Tryz.prog 151 #[.string ⟨l.toArray⟩,.string ⟨#[c]⟩] w fun e w'=>e=.returned (.tuple #[.string ⟨a.toArray⟩,.string ⟨b.toArray⟩,.bool true])/\∃n,w'=w.drewN n:=by
 have o:=zh (Any.stringslite_Index_one sIdx ⟨l.toArray⟩ c w);obtain ⟨E,he⟩:=Bm h;have d:Lib.indexByte (ByteArray.mk l.toArray).data.toList c=a.length:=E;rw [d] at o;have G:a.length+1<=l.length:=by rw [he];simp
 have D:=zh he;clear E d h he
 go_enter Tryz.func151,Tryz.ntmps151
 go_wp2_with fail
 refine o.out.mono ?_;rintro e w1 ⟨rfl,rfl⟩
 go_wp2_with fail
 go_quiet (fail)
 have e1:ByteArray.extract ⟨l.toArray⟩ 0 a.length=⟨a.toArray⟩:=by rw [ext_take,D.out];simp
 have e2:ByteArray.extract ⟨l.toArray⟩ (a.length+1) l.length=⟨b.toArray⟩:=by rw [ext_drop,D.out];simp
 rw [e1,e2]
 go_wp2_with fail
 exact DM (by simp [results,Tryz.results151,go_sem]) rfl ⟨rfl,_,rfl⟩
theorem cut_no (w:World) (h:AP c l=none):Calls Tryz.prog 137 #[.string ⟨l.toArray⟩,.string ⟨#[c]⟩] w fun e w'=>e=.returned (.tuple #[.string ⟨l.toArray⟩,.string ⟨#[]⟩,.bool false])/\w=w':=by
 have d:=zh (lcut_no w h);clear h
 go_enter Tryz.func137,Tryz.ntmps137
 go_wp2_with fail
 refine d.out.mono ?_;rintro e w1 ⟨rfl,rfl⟩
 go_wp2_with fail
 exact DM (by simp [results,Tryz.results137,go_sem]) rfl ⟨rfl,rfl⟩
theorem cut_yes {b:List UInt8} (w:World) (h:AP c l=some (a,b)) (o:l.length<=9223372036854775000):Calls Tryz.prog 137 #[.string ⟨l.toArray⟩,.string ⟨#[c]⟩] w fun e w'=>e=.returned (.tuple #[.string ⟨a.toArray⟩,.string ⟨b.toArray⟩,.bool true])/\∃n,w'=w.drewN n:=by
 have d:=zh (lcut_yes w h o);clear h
 go_enter Tryz.func137,Tryz.ntmps137
 go_wp2_with fail
 refine d.out.mono ?_;rintro e w1 ⟨rfl,n,rfl⟩
 go_wp2_with fail
 exact DM (by simp [results,Tryz.results137,go_sem]) rfl ⟨rfl,_,rfl⟩
abbrev Ai (w:World) (r:Nat) (s:List UInt8×Bool):Prop:=ze w r 125 #[.string ⟨s.1.toArray⟩,.bool s.2]
theorem wNew_calls (l:List UInt8) (w:World):Calls Tryz.prog 40 #[.string ⟨l.toArray⟩] w fun e w'=>e=.returned (.pointer (some ⟨w.heap.size,0,none⟩))/\za w w'/\Ai w' w.heap.size (l,false):=by
 go_enter Tryz.func40,Tryz.ntmps40
 go_wp2_with fail
 go_ret;exact ⟨rfl,(za.refl w).alloc _,ze.new _ _ _ rfl⟩
theorem Ca {s:List UInt8×Bool} (w:World) (h:Ai w r s):Calls Tryz.prog 42 #[.pointer (some ⟨r,0,none⟩)] w fun e w'=>e=.returned (.bool s.2)/\w=w':=by
 have c1:=h.cell (k:=1) rfl;clear h
 go_enter Tryz.func42,Tryz.ntmps42
 go_wp2_with fail
 go_ret;exact ⟨rfl,rfl⟩
def zr (s:List UInt8×Bool):Nat:=if s.2=true then 0 else s.1.length
theorem CR {s:List UInt8×Bool} (w:World) (h:Ai w r s):Calls Tryz.prog 43 #[.pointer (some ⟨r,0,none⟩)] w fun e w'=>e=.returned (.int .i64 (zr s:Nat))/\w=w':=by
 have d:=zh (Ca w h);have c0:=h.cell (k:=0) rfl;obtain ⟨l,b⟩:=s;clear h;dsimp only at d c0
 cases b with
 | true=>
  go_enter Tryz.func43,Tryz.ntmps43
  go_wp2_with fail
  refine d.out.mono ?_;rintro e w1 ⟨rfl,rfl⟩
  go_wp2_with fail
  go_ret;exact ⟨rfl,rfl⟩
 | false=>
  go_enter Tryz.func43,Tryz.ntmps43
  go_wp2_with fail
  refine d.out.mono ?_;rintro e w1 ⟨rfl,rfl⟩
  go_wp2_with fail
  go_ret;exact ⟨rfl,rfl⟩
theorem Br {a:World} (h:zd X a b) (g k:Nat) (v:Value) (o:X g):zd X a (b.setCell ⟨g,k,none⟩ v):=
 ⟨h.os,h.tape,h.output,Da h.size (by simp [World.setCell]),fun i D d=>(Di b ⟨g,k,none⟩ v i (fun e=>d (e ▸ o))).trans (h.block i D d)⟩
theorem CQ (w:World) (h:ze w r 125 #[u,v]):Calls Tryz.prog 139 #[.pointer (some ⟨r,0,none⟩)] w fun e w'=>e=.returned (.tuple #[])/\zd (·=r) w w'/\Ai w' r ([],true):=by
 have c0:=h.cell (k:=0) rfl;have c1:=h.cell (k:=1) rfl;have hf:∀k,w.frozen? ⟨r,k,none⟩=false:=fun k=>h.frozen k
 have H:=zh h;clear h
 go_enter Tryz.func139,Tryz.ntmps139
 go_wp2_with fail
 refine bodyPost_end (results_none rfl _ _ _) rfl ⟨rfl,Br (X:=(·=r)) (Br (zd.refl _ _) r 1 _ rfl) r 0 _ rfl,?_⟩;exact (H.out.set (k:=1) _).set (k:=0) _
def numP (c:UInt8) (l:List UInt8):Option (Int×List UInt8):=match AP c l with
 | none=>none
 | some (a,b)=>match Lib.atoiAll a with
  | .ok v=>if Lib.itoa v=a then some (v,b) else none
  | _=>none
theorem Ag {a:World} (h:za a b):zd X a b:=zd.of_ext h
theorem chg_drew (w:World) (n:Nat):zd X w (w.drewN n):=zd.of_ext ((za.refl w).drewN n)
def numS (c:UInt8) (s:List UInt8×Bool):Option (Int×List UInt8):=if s.2=true then none else numP c s.1
def NumPost (r:Nat) (o:Option (Int×List UInt8)) (w:World) (e:Ending) (w':World):Prop:=
 zd (·=r) w w'/\(∀v b,o=some (v,b)->e=.returned (.tuple #[.int .i64 v,.bool true])/\Ai w' r (b,false))/\(o=none->e=.returned (.tuple #[.int .i64 0,.bool false])/\Ai w' r ([],true))
def NumFr (r:Nat) (a:Act):Prop:=∃u1 u2 u3 u4 u5 u6 u7 u8 u9 u10 u11 u12 u13 u14 u15 u16 u17 u18 u19 u20 u21 u22 u23 u24 u25 u26 u27 u28 u29 u30 u31 u32 u33 u34 u35 u36 u37 u38 u39 u40:Value,a={ tmps:=#[.pointer (some ⟨r,0,none⟩),u1,u2,u3,u4,u5,u6,u7,u8,u9,u10,u11,u12,u13,u14,u15,u16,u17,u18,u19,u20,u21,u22,u23,u24,u25,u26,u27,u28,u29,u30,u31,u32,u33,u34,u35,u36,u37,u38,u39,u40],defers:=[] }
theorem var_chg (o:zd X w w') {n:String} {g:Nat} (E:Tryz.prog.globalNamed n=some g) (D:¬ X g) (h:w.var? Tryz.prog n=some cs):w'.var? Tryz.prog n=some cs:=by
 unfold World.var? at h⊢;rw [E] at h⊢;simp only [Option.bind_some] at h⊢
 split at h
 ·rename_i d
  rw [o.block g (lt_heap d) D,d];exact h
 ·cases h
theorem atoi_ok {v:Int} (w:World) (h:Lib.atoiAll a=.ok v) (d:a.length<=281474976710656):Calls Tryz.prog 138 #[.string ⟨a.toArray⟩] w fun e w'=>e=.returned (.tuple #[.int .i64 v,.nilIface])/\za w w':=by
 refine (Any.strconv_Atoi_ok sAtoi ⟨a.toArray⟩ (by simp [ByteArray.size];omega) v h w).mono ?_;rintro e w' ⟨rfl,rfl | ⟨t,rfl⟩⟩
 ·exact ⟨rfl,za.refl _⟩
 ·exact ⟨rfl,Lib.bytesWorld_below _ _ _⟩
theorem atoi_err (w:World) (E:z9 w) (h:∀v,Lib.atoiAll a≠.ok v) (D:a.length<=281474976710656):Calls Tryz.prog 138 #[.string ⟨a.toArray⟩] w fun e w'=>∃n N,e=.returned (.tuple #[.int .i64 n,.iface 197 (.pointer (some ⟨N,0,none⟩))])/\za w w':=by
 rcases d:Lib.atoiAll a with v | _ | _
 ·exact absurd d (h v)
 ·obtain ⟨tp,p,hp⟩:=E.syn;refine (Any.strconv_Atoi_syntax_var sAtoi ⟨a.toArray⟩ (by simpa [ByteArray.size] using D) d tp p w hp).mono ?_;rintro e w' ⟨N,rfl,-,-,o⟩;exact ⟨_,_,rfl,o⟩
 ·obtain ⟨tp,p,hp⟩:=E.rng;refine (Any.strconv_Atoi_range_var sAtoi ⟨a.toArray⟩ (by simpa [ByteArray.size] using D) d tp p w hp).mono ?_;rintro e w' ⟨N,rfl,-,-,o⟩;exact ⟨_,_,rfl,o⟩
def isVar (g : Nat) : Prop := ∃ n, (n = "internal/strconv.uint64pow10" ∨ n = "strconv.ErrSyntax" ∨ n = "strconv.ErrRange") ∧ Tryz.prog.globalNamed n = some g
theorem Bb (h:z9 w) (hC:zd X w w') (hX:∀g,X g->¬ isVar g):z9 w':=by
 have f : ∀ n, (n = "internal/strconv.uint64pow10" ∨ n = "strconv.ErrSyntax" ∨ n = "strconv.ErrRange") → ∀ cs, w.var? Tryz.prog n = some cs → w'.var? Tryz.prog n = some cs := fun n hn cs h => by
  cases hg:Tryz.prog.globalNamed n with
  | none=>unfold World.var? at h;rw [hg] at h;cases h
  | some g=>exact var_chg hC hg (fun hx=>hX g hx ⟨n,hn,hg⟩) h
 exact ⟨f _ (.inl rfl) _ h.tab,h.syn.imp fun _ ⟨p,h⟩=>⟨p,f _ (.inr (.inl rfl)) _ h⟩,h.rng.imp fun _ ⟨p,h⟩=>⟨p,f _ (.inr (.inr rfl)) _ h⟩⟩
theorem var_ne (h:z9 w) (o:ze w r 125 #[u,v]):∀g,g=r->¬ isVar g:=by
 rintro g rfl ⟨n,E,D⟩
 have f:∀cs,w.var? Tryz.prog n=some cs->cs=#[u,v]:=fun cs h=>by
  unfold World.var? at h;rw [D] at h;have d:w.heap[g]?=some (.cells #[u,v] 125 (0,0)):=o;simp only [Option.bind_some,d] at h;injection h with h;exact h.symm
 rcases E with rfl | rfl | rfl
 ·have:=congrArg Array.size (f _ h.tab);simp [Lib.pow10Tab] at this
 ·obtain ⟨tp,p,h⟩:=h.syn;have:=congrArg Array.size (f _ h);simp at this
 ·obtain ⟨tp,p,h⟩:=h.rng;have:=congrArg Array.size (f _ h);simp at this
theorem number_calls {s:List UInt8×Bool} (c:UInt8) (w:World) (hv:z9 w) (h:Ai w r s) (hl:s.1.length<=281474976710656):Calls Tryz.prog 119 #[.pointer (some ⟨r,0,none⟩),.string ⟨#[c]⟩] w (NumPost r (numS c s) w):=by
 have HB:=zh (Ca w h);have HR:=zh h;have HV:=zh hv;obtain ⟨l,bad⟩:=s;have c0:=h.cell (k:=0) rfl;have hf:∀k,w.frozen? ⟨r,k,none⟩=false:=fun k=>h.frozen k
 dsimp only at HB HR c0 hl;clear h hv
 go_enter Tryz.func119,Tryz.ntmps119
 go_wp2_with fail
 refine wp_scope_jumps 0 (fun a' w'=>NumFr r a'/\Hid (numS c (l,bad)=none)/\Hid (zd (·=r) w w'/\∃u v,ze w' r 125 #[u,v])) (fun _ _=>0) rfl ?_ ?_
 ·go_wp2_with fail
  refine HB.out.mono ?_;rintro e w1 ⟨rfl,rfl⟩
  cases bad with
  | true=>
   go_wp2_with fail
   go_step3
   exact ⟨rfl,⟨_,_,_,_,_,_,_,_,_,_,_,_,_,_,_,_,_,_,_,_,_,_,_,_,_,_,_,_,_,_,_,_,_,_,_,_,_,_,_,_,rfl⟩,rfl,zd.refl _ _,_,_,HR.out⟩
  | false=>
   cases V:AP c l with
   | none=>
    have J:Hid (numS c (l,false)=none):=by (show numS c (l,false)=none);unfold numS numP;rw [V];rfl
    have HC:=zh (cut_no w V);clear V
    go_wp2_with fail
    refine HC.out.mono ?_;rintro e w2 ⟨rfl,rfl⟩
    go_wp2_with fail
    go_step3
    exact ⟨rfl,⟨_,_,_,_,_,_,_,_,_,_,_,_,_,_,_,_,_,_,_,_,_,_,_,_,_,_,_,_,_,_,_,_,_,_,_,_,_,_,_,_,rfl⟩,J,Br (X:=(·=r)) (zd.refl _ _) r 0 _ rfl,_,_,HR.out.set (k:=0) _⟩
   | some p=>
    obtain ⟨a,b⟩:=p;have HC:=zh (cut_yes w V (by omega));have b6:a.length<=l.length:=by have:=(Bm V).2;rw [this];simp
    have J:Hid (numS c (l,false)=match Lib.atoiAll a with | .ok v=>if Lib.itoa v=a then some (v,b) else none | _=>none):=by
     (show numS c (l,false)=_);unfold numS numP;rw [V];rfl
    clear V
    go_wp2_with fail
    refine HC.out.mono ?_;rintro e w2 ⟨rfl,n2,rfl⟩;have G:Hid (zd (·=r) w ((w.drewN n2).setCell ⟨r,0,none⟩ (.string ⟨b.toArray⟩))):=Br (X:=(·=r)) (chg_drew w n2) r 0 _ rfl;have K:Hid (Ai ((w.drewN n2).setCell ⟨r,0,none⟩ (.string ⟨b.toArray⟩)) r (b,false)):=ze.set (k:=0) (show ze (w.drewN n2) r 125 _ from HR.out) (.string ⟨b.toArray⟩);have U:=zh (Bb HV.out G.out (var_ne HV.out HR.out));generalize a9:(w.drewN n2).setCell ⟨r,0,none⟩ (.string ⟨b.toArray⟩)=w3 at G K U
    go_wp2_with fail
    clear a9 HB c0 HC hf HR;by_cases L:∃v,Lib.atoiAll a=.ok v
    ·obtain ⟨v,hv⟩:=L;rw [hv] at J;have a4:=Lib.atoiAll_bounds hv;have E:=atoi_ok w3 hv (by omega);clear hv;refine E.mono ?_;rintro e w4 ⟨rfl,d⟩;have O:=zh (itoa_calls w4 (U.out.ext d) ⟨a4.1,a4.2⟩);have I:=zh d;by_cases hs:Lib.itoa v=a
     ·have D:Hid (numS c (l,false)=some (v,b)):=by (show _=_);rw [J.out];simp [hs]
      rw [hs] at O;clear E d hs J
      go_wp2_with fail
      refine O.out.mono ?_;rintro e w5 ⟨rfl,o⟩;have M:Hid (zd (·=r) w w5):=(G.out.ext_r I.out).ext_r o;have Q:Hid (Ai w5 r (b,false)):=(K.out.ext I.out).ext o;clear o
      go_wp2_with fail
      simp only [Exit.jump]
      go_ret2
      exact ⟨M.out,(fun v' b' h=>by rw [D.out] at h;injection h with h;injection h with h1 h2;subst h1 h2;exact ⟨rfl,Q.out⟩),(fun h=>by rw [D.out] at h;cases h)⟩
     ·have D:Hid (numS c (l,false)=none):=by (show _=_);rw [J.out];simp [hs]
      have b7:(Lib.itoa v==a)=false:=by simp [hs]
      clear E d hs J
      go_wp2_with fail
      refine O.out.mono ?_;rintro e w5 ⟨rfl,o⟩;have M:Hid (zd (·=r) w w5):=(G.out.ext_r I.out).ext_r o;have Q:Hid (Ai w5 r (b,false)):=(K.out.ext I.out).ext o;clear o
      go_wp2_with fail
      go_step3
      exact ⟨rfl,⟨_,_,_,_,_,_,_,_,_,_,_,_,_,_,_,_,_,_,_,_,_,_,_,_,_,_,_,_,_,_,_,_,_,_,_,_,_,_,_,_,rfl⟩,D,M.out,_,_,Q.out⟩
    ·have D:Hid (numS c (l,false)=none):=by
      (show _=_);rw [J.out]
      cases ha:Lib.atoiAll a with
      | ok v=>exact absurd ⟨v,ha⟩ L
      | _=>rfl
     have E:=atoi_err w3 U.out (fun v h=>L ⟨v,h⟩) (by omega);clear L J;refine E.mono ?_;rintro e w4 ⟨n,N,rfl,d⟩;have a6:Hid (zd (·=r) w w4):=G.out.ext_r d;have a7:Hid (Ai w4 r (b,false)):=K.out.ext d;clear E d
     go_wp2_with fail
     go_step3
     exact ⟨rfl,⟨_,_,_,_,_,_,_,_,_,_,_,_,_,_,_,_,_,_,_,_,_,_,_,_,_,_,_,_,_,_,_,_,_,_,_,_,_,_,_,_,rfl⟩,D,a6.out,_,_,a7.out⟩
 ·rintro a' w' ⟨⟨u1,u2,u3,u4,u5,u6,u7,u8,u9,u10,u11,u12,u13,u14,u15,u16,u17,u18,u19,u20,u21,u22,u23,u24,u25,u26,u27,u28,u29,u30,u31,u32,u33,u34,u35,u36,u37,u38,u39,u40,rfl⟩,hn,hw⟩;obtain ⟨hC,u,v,hb⟩:=hw.out;have HF:=zh (CQ w' hb);have HC:=zh hC;clear hC hb hw
  go_wp2_with fail
  refine HF.out.mono ?_;rintro e w1 ⟨rfl,a8,hr⟩
  go_wp2_with fail
  simp only [Exit.jump]
  go_ret2
  exact ⟨HC.out.tr a8,(fun v b h=>by rw [hn.out] at h;cases h),fun _=>⟨rfl,hr⟩⟩
end
section
open Go.RowKit
theorem Tryz.infoBools:(Tryz.prog.info? 32).map (fun i=>(i.zero,i.size,i.bytes))=some (some (.slice none 0 0),1,24):=by kernel_rfl
theorem own_keep {e:TypeId} (h:w.ownsRow B e sz v n xs) (D:∀g,v.ownBlock=some g->w'.heap[g]?=w.heap[g]?):w'.ownsRow B e sz v n xs:=by
 obtain ⟨d,h0 | ⟨g,cap,cur,rfl,h1,h2,o⟩⟩:=h
 ·exact ⟨d,.inl h0⟩
 ·exact ⟨d,.inr ⟨g,cap,cur,rfl,h1,(D g rfl).trans h2,o⟩⟩
end
section
open Go.RowKit Go.Shelf
attribute [local go_sem ↓] Go.wp_at_zero Go.wp_at_succ
abbrev Rd:=List UInt8×Bool
def zw (s:Rd):Int×Rd:=match numS 59 s with
 | some (v,b)=>(v,(b,false))
 | none=>(0,([],true))
theorem Cv (s:Rd):Cp (zw s).1:=by
 unfold zw numS numP
 split
 ·rename_i v b h
  split at h
  ·cases h
  ·split at h
   ·cases h
   ·split at h
    ·rename_i d
     split at h
     ·injection h with h;injection h with h1 h2;subst h1;exact ⟨(Lib.atoiAll_bounds d).1,(Lib.atoiAll_bounds d).2⟩
     ·cases h
    ·cases h
 ·exact ⟨by decide,by decide⟩
theorem AW (s:Rd):(zw s).2.1.length<=s.1.length/\((zw s).2.2=false->(zw s).2.1.length<s.1.length):=by
 unfold zw numS numP
 split
 ·rename_i v b h
  split at h
  ·cases h
  ·split at h
   ·cases h
   ·rename_i d
    have:=(Bm d).2
    split at h
    ·split at h
     ·injection h with h;injection h with h1 h2;subst h2;rw [this];exact ⟨by simp;omega,fun _=>by simp;omega⟩
     ·cases h
    ·cases h
 ·exact ⟨by simp,fun h=>by cases h⟩
theorem intF_bad {s:Rd} (h:s.2=true):zw s=(0,([],true)):=by
 unfold zw numS;rw [if_pos h]
theorem rInt_calls {s:Rd} (w:World) (O:z9 w) (h:Ai w r s) (K:s.1.length<=281474976710656):Calls Tryz.prog 83 #[.pointer (some ⟨r,0,none⟩)] w fun e w'=>e=.returned (.int .i64 (zw s).1)/\zd (·=r) w w'/\Ai w' r (zw s).2:=by
 have D:=zh (number_calls 59 w O h K);have d:Hid (∀o,o=numS 59 s->zw s=match o with | some (v,b)=>(v,(b,false)) | none=>(0,([],true))):=fun o Q=>by rw [Q];rfl
 generalize numS 59 s=o at D d;have d:=zh (d.out o rfl);generalize zw s=i at d;clear O h K
 go_enter Tryz.func83,Tryz.ntmps83
 cases o with
 | none=>
  go_wp2_with fail
  refine D.out.mono ?_;rintro e w1 ⟨E,-,L⟩;obtain ⟨rfl,G⟩:=L rfl;have J:=zh G;have I:=zh E;clear E L G D
  go_wp2_with fail
  go_ret;have e:=d.out;subst e;exact ⟨rfl,I.out,J.out⟩
 | some p=>
  obtain ⟨v,b⟩:=p
  go_wp2_with fail
  refine D.out.mono ?_;rintro e w1 ⟨E,M,-⟩;obtain ⟨rfl,G⟩:=M v b rfl;have J:=zh G;have I:=zh E;clear E M G D
  go_wp2_with fail
  go_ret;have e:=d.out;subst e;exact ⟨rfl,I.out,J.out⟩
def zZ:Nat->Rd->List Int->List Int×Rd
 | 0,s,l=>(l,s)
 | f+1,s,l=>if zr s=0\/s.1.head?=some 93 then (l,s) else zZ f (zw s).2 (l++[(zw s).1])
def intsE (p:List Int×Rd):List Int×Rd:=if zr p.2=0 then ([],([],true)) else (p.1,(p.2.1.tail,false))
def zy (s:Rd):List Int×Rd:=if zr s=0\/s.1.head?≠some 91 then ([],([],true)) else intsE (zZ s.1.tail.length (s.1.tail,false) [])
theorem intF_nil (s:Rd) (h:(zw s).2.2=true):(zw s).2.1=[]:=by
 unfold zw at h⊢
 cases d:numS 59 s with
 | none=>rfl
 | some p=>rw [d] at h;cases h
theorem intF_dec {s:Rd} (h:s.1.length<=n+1):(zw s).2.1.length<=n:=by
 cases d:(zw s).2.2 with
 | false=>have:=(AW s).2 d;omega
 | true=>rw [intF_nil s d];simp
def rdSize (r:Nat) (w:World):Nat:=match w.cell? ⟨r,0,none⟩ with
 | some (.string s)=>s.size
 | _=>0
theorem rdSize_of {s:Rd} (h:Ai w r s):rdSize r w=s.1.length:=by
 unfold rdSize;rw [h.cell (k:=0) rfl];simp [ByteArray.size]
theorem head_get (h:0<l.length):∃x l',l=x :: l'/\(ByteArray.mk l.toArray)[0]'h=x:=by
 cases l with
 | nil=>simp at h
 | cons x l'=>exact ⟨x,l',rfl,rfl⟩
theorem own_chgR {e t:TypeId} (h:w.ownsRow B e sz v n xs) (E:ze w r t cs) (d:e≠t) (D:zd (·=r) w w'):w'.ownsRow B e sz v n xs:=
 own_keep h fun g o=>D.block g (World.ownsRow.lt h g o).2 (fun e=>by subst e;exact AY h E d o)
theorem chg_below {a c:World} (h:zd X a b) (d:Below B b c) (E:a.heap.size<=B:=by exact CY _):zd X a c:=
 ⟨d.os.trans h.os,d.tape.trans h.tape,d.output.trans h.output,Da h.size d.size,fun k o D=>(d.block k (by omega)).trans (h.block k o D)⟩
theorem elsF_fuel:∀(f f':Nat) (s:Rd) (l:List Int),s.1.length<=f->s.1.length<=f'->zZ f s l=zZ f' s l
 | 0,0,s,l,_,_=>rfl
 | 0,f'+1,s,l,h,_=>by
  have:s.1=[]:=Dq (by omega);unfold zZ;rw [if_pos (.inl (by unfold zr;rw [this];split <;> rfl))]
 | f+1,0,s,l,_,h=>by
  have:s.1=[]:=Dq (by omega);unfold zZ;rw [if_pos (.inl (by unfold zr;rw [this];split <;> rfl))]
 | f+1,f'+1,s,l,h,d=>by
  unfold zZ
  split
  ·rfl
  ·rename_i o
   exact elsF_fuel f f' _ _ (intF_dec h) (intF_dec d)
theorem elsF_step {s:Rd} {l:List Int} (h0:zr s≠0) (h1:s.1.head?≠some 93):zZ s.1.length s l=zZ (zw s).2.1.length (zw s).2 (l++[(zw s).1]):=by
 have d:0<s.1.length:=by
  unfold zr at h0
  split at h0
  ·exact absurd rfl h0
  ·omega
 obtain ⟨f,hf⟩:∃f,s.1.length=f+1:=⟨s.1.length - 1,by omega⟩;rw [hf,zZ,if_neg (fun h=>h.elim h0 h1)];exact elsF_fuel _ _ _ _ (intF_dec (by omega)) (CY _)
theorem elsF_stop {s:Rd} {l:List Int} (h:zr s=0\/s.1.head?=some 93):zZ s.1.length s l=(l,s):=by
 cases hf:s.1.length with
 | zero=>rfl
 | succ f=>unfold zZ;rw [if_pos h]
theorem elements_calls {s:Rd} (w:World) (hv:z9 w) (h:Ai w r s) (hl:s.1.length<=1000000000000):Calls Tryz.prog 120 #[.pointer (some ⟨r,0,none⟩),.func (.func 83) #[.pointer (some ⟨r,0,none⟩)] #[]] w fun e w'=>∃v,e=.returned v/\zd (·=r) w w'/\Ai w' r (zy s).2/\zT w' w.heap.size v (zy s).1:=by
 have HL:=zh (CR w h);have HF:=zh (CQ w h);obtain ⟨l,bad⟩:=s;have c0:=h.cell (k:=0) rfl;have hf:∀k,w.frozen? ⟨r,k,none⟩=false:=fun k=>h.frozen k
 have HR:=zh h;have HV:=zh hv;dsimp only at HL HR c0 hl;clear h hv
 go_enter Tryz.func120,Tryz.ntmps120
 go_wp2_with fail
 refine HL.out.mono ?_;rintro e w1 ⟨rfl,rfl⟩;by_cases o:zr (l,bad)=0
 ·have hI:Hid (zy (l,bad)=([],([],true))):=by (show _=_);unfold zy;rw [if_pos (.inl o)]
  have d5:(zr (l,bad):Int)=0:=by omega
  have d6:((zr (l,bad):Int)==0)=true:=by simp [o]
  go_wp2_with fail
  refine HF.out.mono ?_;rintro e w2 ⟨rfl,hC,hr⟩;have HC:=zh hC;have a0:=zh hr;clear hC hr
  go_wp2_with fail
  go_ret;refine ⟨_,rfl,HC.out,?_,?_⟩
  ·rw [hI.out];exact a0.out
  ·rw [hI.out];exact World.ownsRow_nil _ _ _ _
 ·have d5:((zr (l,bad):Int)==0)=false:=by simp [o]
  have a1:bad=false:=by cases bad with | false=>rfl | true=>exact absurd rfl o
  subst a1;have a2:0<l.length:=by unfold zr at o;simp at o;exact List.length_pos_iff.2 o
  have b3:(0:Int)<(l.length:Int):=by omega
  obtain ⟨x,l',J,hx⟩:=head_get a2;by_cases I:x=91
  ·have hq:((((ByteArray.mk l.toArray)[0]'a2).toNat:Int) != 91)=false:=by rw [hx,I];rfl
   have d4:ByteArray.extract ⟨l.toArray⟩ 1 l.length=⟨l'.toArray⟩:=by rw [ext_drop,J];rfl
   have HI:Hid (zy (l,false)=intsE (zZ l'.length (l',false) [])):=by
    (show _=_)
    unfold zy;rw [if_neg (by rw [J,I];simp [zr]),J,I];rfl
   have f6:l'.length<=1000000000000:=by rw [J] at hl;simp at hl;omega
   have HS:Hid (zd (·=r) w (w.setCell ⟨r,0,none⟩ (.string ⟨l'.toArray⟩))/\Ai (w.setCell ⟨r,0,none⟩ (.string ⟨l'.toArray⟩)) r (l',false)):=⟨Br (X:=(·=r)) (zd.refl _ _) r 0 _ rfl,ze.set (k:=0) HR.out _⟩;clear J hx I o
   go_wp2_with fail
   go_loopw [5] (fun v wr=>∃s' acc,Hid (zZ l'.length (l',false) []=zZ s'.1.length s' acc)/\Hid (Ai wr r s')/\Hid (zT wr w.heap.size v acc)/\Hid (zd (·=r) w wr)/\s'.1.length+acc.length<=l'.length/\∃A c,v=.slice A acc.length c) (fun _ wr=>rdSize r wr)
   case atStart=>exact ⟨(l',false),[],rfl,HS.out.2,World.ownsRow_nil _ _ _ _,HS.out.1,by simp,none,0,rfl⟩
   have c6:=HR;clear HS hq d4 d5 HR HL HF c0 hf b3 hl
   case round=>
    obtain ⟨⟨l1,bad⟩,acc,O,d,U,L,a5,A,c,rfl⟩:=hrel;have b2:=CR wr d.out;have c1:=d.out.cell (k:=0) rfl;have f3:∀k,wr.frozen? ⟨r,k,none⟩=false:=fun k=>d.out.frozen k
    have f5:l1.length+acc.length<=l'.length:=a5;dsimp only at b2 c1;have G:=zh b2;clear b2 a5;by_cases o:zr (l1,bad)=0
    ·have E:Hid (zZ l'.length (l',false) []=(acc,(l1,bad))):=O.out.trans (elsF_stop (.inl o));have d6:((zr (l1,bad):Int)==0)=true:=by simp [o]
     have e8:¬ ((0:Int)<(zr (l1,bad):Int)):=by omega
     have e7:decide (0<zr (l1,bad))=false:=Dc (by omega)
     go_wp2_with fail
     refine G.out.mono ?_;rintro e w2 ⟨rfl,rfl⟩
     go_wp2_with fail
     have b5:=zh (CQ wr d.out);refine G.out.mono ?_;rintro e w3 ⟨rfl,rfl⟩;have HN:Hid (zy (l,false)=([],([],true))):=by (show _=_);rw [HI.out,E.out];unfold intsE;rw [if_pos o]
     clear G O E HI U
     go_wp2_with fail
     refine b5.out.mono ?_;rintro e w4 ⟨rfl,hC,hr⟩;have HC:=zh (L.out.tr hC);have a0:=zh hr;clear hC hr b5
     go_wp2_with fail
     go_ret;refine ⟨_,rfl,HC.out,?_,?_⟩
     ·rw [HN.out];exact a0.out
     ·rw [HN.out];exact World.ownsRow_nil _ _ _ _
    ·have a1:bad=false:=by cases bad with | false=>rfl | true=>exact absurd rfl o
     subst a1;have K:0<l1.length:=by unfold zr at o;simp at o;exact List.length_pos_iff.2 o
     obtain ⟨x,l2,D,hx⟩:=head_get K;have d6:((zr (l1,false):Int)==0)=false:=by simp [o]
     have e8:(0:Int)<(zr (l1,false):Int):=by omega
     have e7:decide (0<zr (l1,false))=true:=Db (by omega);by_cases Q:x=93
     ·have hq:((((ByteArray.mk l1.toArray)[0]'K).toNat:Int) != 93)=false:=by rw [hx,Q];rfl
      have d4:ByteArray.extract ⟨l1.toArray⟩ 1 l1.length=⟨l2.toArray⟩:=by rw [ext_drop,D];rfl
      have HN:Hid (zy (l,false)=(acc,(l2,false))):=by
       (show _=_)
       rw [HI.out,O.out,elsF_stop (.inr (by rw [D,Q];rfl))];unfold intsE;rw [if_neg o,D];rfl
      have M:Hid (zd (·=r) w (wr.setCell ⟨r,0,none⟩ (.string ⟨l2.toArray⟩))/\Ai (wr.setCell ⟨r,0,none⟩ (.string ⟨l2.toArray⟩)) r (l2,false)):=⟨Br (X:=(·=r)) L.out r 0 _ rfl,ze.set (k:=0) d.out _⟩;have V:Hid (zT (wr.setCell ⟨r,0,none⟩ (.string ⟨l2.toArray⟩)) w.heap.size (.slice A acc.length c) acc):=own_chgR U.out d.out (by decide) (Br (X:=(·=r)) (zd.refl _ _) r 0 _ rfl);clear HI O D hx Q o U L d
      go_wp2_with fail
      refine G.out.mono ?_;rintro e w2 ⟨rfl,rfl⟩
      go_wp2_with fail
      refine G.out.mono ?_;rintro e w2 ⟨rfl,rfl⟩;clear G
      go_wp2_with fail
      go_ret;refine ⟨_,rfl,M.out.1,?_,?_⟩
      ·rw [HN.out];exact M.out.2
      ·rw [HN.out];exact V.out
     ·have hq:((((ByteArray.mk l1.toArray)[0]'K).toNat:Int) != 93)=true:=by
       rw [hx,bne_iff_ne];intro h;exact Q (UInt8.toNat_inj.1 (by simpa using Int.ofNat.inj h))
      have E:Hid (zZ l'.length (l',false) []=zZ (zw (l1,false)).2.1.length (zw (l1,false)).2 (acc++[(zw (l1,false)).1])):=O.out.trans (elsF_step o (by rw [D];simpa using Q));have c8:(zw (l1,false)).2.1.length+1<=l1.length:=by have:=intF_dec (s:=(l1,false)) (n:=l1.length - 1) (by show l1.length<=_;omega);omega
      have a8:=zh (rInt_calls wr (Bb HV.out L.out (var_ne HV.out c6.out)) d.out (by show l1.length<=_;omega));obtain ⟨y,hy⟩:=DX (zw (l1,false));rw [<-hy] at E a8 c8;have e5:Hid (rdSize r wr=l1.length):=rdSize_of d.out;have f0:acc.length<=1000000000000:=by omega
      clear HI O D hx Q o hy
      go_wp2_with fail
      refine G.out.mono ?_;rintro e w2 ⟨rfl,rfl⟩;clear G
      go_wp2_with fail
      refine a8.out.mono ?_;rintro e w3 ⟨rfl,b0,c7⟩;have V:Hid (zT w3 w.heap.size (.slice A acc.length c) acc):=own_chgR U.out d.out (by decide) b0;have M:=zh (L.out.tr b0);have b8:=zh c7;clear b0 c7 a8 U L d;have a7:w.heap.size<=w3.heap.size:=M.out.size
      go_wp2_with (at_builtin;refine Cf rfl _ _ rfl _ acc y.1 w.heap.size w3.heap.size 1 _ rfl rfl (V.out.alloc _) ?d1 ?d2 ?d3 ?_)
      (try case d1=>exact zU _ _ _ (by simp))
      case d2=>(first | (simp;done) | (simp;omega) | omega)
      case d3=>omega
      intro v' w4 b1 c9 e6;have a9:Below w.heap.size w3 w4:=((Below.refl _ w3).alloc a7 _).grown c9.out (by simp;omega) (fun k hk=>(V.out.lt k hk).1);have e0:Hid (zd (·=r) w w4):=chg_below M.out a9;have b9:Hid (Ai w4 r y.2):=ze.below b8.out a9 (zb c6.out);obtain ⟨A4,c4,rfl,-⟩:=Az b1;have e3:=zh b1;clear b1 c9 e6 a9 M b8 V a7;go_wp2;go_roundw
      case rel=>exact ⟨y.2,acc++[y.1],E,b9,e3,e0,by simp;omega,A4,c4,by simp⟩
      case measure=>rw [rdSize_of b9.out,e5.out];omega
  ·have hq:((((ByteArray.mk l.toArray)[0]'a2).toNat:Int) != 91)=true:=by
    rw [hx,bne_iff_ne];intro h;exact I (UInt8.toNat_inj.1 (by simpa using Int.ofNat.inj h))
   have hI:Hid (zy (l,false)=([],([],true))):=by (show _=_);unfold zy;rw [if_pos (.inr (by rw [J];simpa using I))]
   clear J hx I o
   go_wp2_with fail
   refine HF.out.mono ?_;rintro e w2 ⟨rfl,hC,hr⟩;have HC:=zh hC;have a0:=zh hr;clear hC hr
   go_wp2_with fail
   go_ret;refine ⟨_,rfl,HC.out,?_,?_⟩
   ·rw [hI.out];exact a0.out
   ·rw [hI.out];exact World.ownsRow_nil _ _ _ _
theorem rInts_calls {s:Rd} (w:World) (G:z9 w) (h:Ai w r s) (J:s.1.length<=1000000000000):Calls Tryz.prog 84 #[.pointer (some ⟨r,0,none⟩)] w fun e w'=>∃v,e=.returned v/\zd (·=r) w w'/\Ai w' r (zy s).2/\zT w' w.heap.size v (zy s).1:=by
 have o:=zh (elements_calls w G h J);generalize zy s=i at o⊢;clear G h
 go_enter Tryz.func84,Tryz.ntmps84
 go_wp2_with fail
 refine o.out.mono ?_;rintro e w1 ⟨v,rfl,D,E,d⟩;obtain ⟨A,c,rfl,-⟩:=Az d;have I:=zh (And.intro D (And.intro E d));clear D E d
 go_wp2_with fail
 go_ret;exact ⟨_,rfl,I.out⟩
end
section
open Go.RowKit
def AU (m:MZ) (t:Nat) (us acc:List Int) (z:Int):List Int:=if (zg m t z && !decide (z∈us) && !decide (z∈acc))=true then acc++[z] else acc
def growX (m:MZ) (t:Nat) (us S:List Int):List Int:=(S.flatMap (zo m)).foldl (AU m t us) S
def growN (m:MZ) (t:Nat) (us:List Int):Nat->List Int->List Int
 | 0,S=>S
 | k+1,S=>growN m t us k (growX m t us S)
def start (m:MZ) (f:List Int):List Int:=f.foldl (fun acc x=>if (decide (0<=x) && decide (x<m.n) && !decide (x∈acc))=true then acc++[x] else acc) []
def reachX (m:MZ) (t:Nat) (f us:List Int):List Int:=growN m t us (m.n.toNat+1) (start m f)
section
variable {m:MZ} {t:Nat} {us f:List Int}
structure GK (m:MZ) (t:Nat) (f us S:List Int):Prop where
 nd:S.Nodup
 rg:∀x∈S,0<=x/\x<m.n
 rp:∀x∈S,RP m t f us x
theorem addIf_sub (acc:List Int) (z:Int):∀x∈acc,x∈AU m t us acc z:=by
 intro x d;unfold AU
 split
 ·exact List.mem_append_left _ d
 ·exact d
theorem addIf_len (acc:List Int) (z:Int):acc.length<=(AU m t us acc z).length:=by
 unfold AU
 split <;> simp
theorem addIf_gk (h:GK m t f us acc) (h0:0<=z/\z<m.n) (h1:zg m t z=true->z∉us->RP m t f us z):GK m t f us (AU m t us acc z):=by
 unfold AU
 split
 ·rename_i d
  simp only [Dm,Bool.not_eq_true',Dw] at d;refine ⟨?_,fun x hx=>?_,fun x hx=>?_⟩
  ·rw [List.nodup_append];refine ⟨h.nd,by simp,fun a D b o=>?_⟩;rw [DD] at o;rintro rfl;subst o;exact d.2 D
  ·rcases DK.1 hx with hx | hx
   ·exact h.rg x hx
   ·rw [DD] at hx;subst hx;exact h0
  ·rcases DK.1 hx with hx | hx
   ·exact h.rp x hx
   ·rw [DD] at hx;subst hx;exact h1 d.1.1 d.1.2
 ·exact h
theorem fold_sub:∀(l acc:List Int),∀x∈acc,x∈l.foldl (AU m t us) acc
 | [],acc,x,d=>d
 | z :: l,acc,x,d=>fold_sub l (AU m t us acc z) x (addIf_sub acc z x d)
theorem fold_len:∀(l acc:List Int),acc.length<=(l.foldl (AU m t us) acc).length
 | [],acc=>CY _
 | z :: l,acc=>Da (addIf_len acc z) (fold_len l _)
theorem fold_gk:∀(l acc:List Int),GK m t f us acc->(∀z∈l,(0<=z/\z<m.n)/\(zg m t z=true->z∉us->RP m t f us z))->GK m t f us (l.foldl (AU m t us) acc)
 | [],acc,h,_=>h
 | z :: l,acc,h,d=>fold_gk l _ (addIf_gk h (d z (DH ..)).1 (d z (DH ..)).2) (fun x o=>d x (Dt _ o))
theorem grow_gk (d:Dim m) (h:GK m t f us S):GK m t f us (growX m t us S):=by
 refine fold_gk _ _ h fun z G=>?_
 obtain ⟨y,E,D⟩:=List.mem_flatMap.1 G;have o:=h.rg y E;exact ⟨Bc d o.1 o.2 D,fun h1 h2=>(h.rp y E).step D h1 h2⟩
def Closed (m:MZ) (t:Nat) (us S:List Int):Prop:=∀y∈S,∀z∈zo m y,zg m t z=true->z∉us->z∈S
theorem addIf_eq (h:zg m t z=true->z∉us->z∈acc):AU m t us acc z=acc:=by
 unfold AU;rw [if_neg];intro d;simp only [Dm,Bool.not_eq_true',Dw] at d;exact d.2 (h d.1.1 d.1.2)
theorem fold_eq:∀(l acc:List Int),(∀z∈l,zg m t z=true->z∉us->z∈acc)->l.foldl (AU m t us) acc=acc
 | [],acc,_=>rfl
 | z :: l,acc,h=>by
  rw [List.foldl_cons,addIf_eq (h z (DH ..))];exact fold_eq l acc (fun x d=>h x (Dt _ d))
theorem grow_closed (h:Closed m t us S):growX m t us S=S:=
 fold_eq _ _ fun z D=>by
  obtain ⟨y,o,d⟩:=List.mem_flatMap.1 D;exact h y o z d
theorem fold_more:∀(l acc:List Int),(∃z∈l,zg m t z=true/\z∉us/\z∉acc)->acc.length<(l.foldl (AU m t us) acc).length
 | z :: l,acc,⟨x,hx,h1,h2,o⟩=>by
  rw [List.foldl_cons];rcases DJ.1 hx with rfl | hx
  ·have:(AU m t us acc x).length=acc.length+1:=by
    unfold AU;rw [if_pos (by simp [h1,h2,o])];simp
   have:=fold_len (m:=m) (t:=t) (us:=us) l (AU m t us acc x);omega
  ·by_cases d:x∈AU m t us acc z
   ·have D:acc.length<(AU m t us acc z).length:=by
     unfold AU at d⊢
     split
     ·simp
     ·rename_i E;rw [if_neg E] at d;exact absurd d o
    exact Dz D (fold_len l _)
   ·exact Nat.lt_of_le_of_lt (addIf_len acc z) (fold_more l _ ⟨x,hx,h1,h2,d⟩)
theorem growN_gk (d:Dim m):∀(k:Nat) {S:List Int},GK m t f us S->GK m t f us (growN m t us k S)
 | 0,S,h=>h
 | k+1,S,h=>growN_gk d k (grow_gk d h)
theorem growN_sub:∀(k:Nat) (S:List Int),∀x∈S,x∈growN m t us k S
 | 0,S,x,d=>d
 | k+1,S,x,d=>growN_sub k _ x (fold_sub _ _ x d)
theorem growN_closed {S:List Int} (h:Closed m t us S):∀k,growN m t us k S=S
 | 0=>rfl
 | k+1=>by unfold growN;rw [grow_closed h];exact growN_closed h k
theorem growN_or:∀(k:Nat) (S:List Int),Closed m t us (growN m t us k S)\/S.length+k<=(growN m t us k S).length
 | 0,S=>.inr (CY _)
 | k+1,S=>by
  by_cases h:Closed m t us S
  ·left
   rw [growN_closed h];exact h
  ·have h1:S.length<(growX m t us S).length:=by
    refine fold_more _ _ ?_;unfold Closed at h;simp only [Classical.not_forall] at h;obtain ⟨y,o,z,D,h1,h2,d⟩:=h;exact ⟨z,List.mem_flatMap.2 ⟨y,o,D⟩,h1,h2,d⟩
   rcases growN_or k (growX m t us S) with h2 | h2
   ·exact .inl h2
   ·right
    unfold growN;omega
theorem start_gk (m:MZ) (t:Nat) (us f:List Int):GK m t f us (start m f)/\∀x∈f,0<=x->x<m.n->x∈start m f:=by
 have key:∀(l acc:List Int),(∀x∈l,x∈f)->GK m t f us acc->GK m t f us (l.foldl (fun acc x=>if (decide (0<=x) && decide (x<m.n) && !decide (x∈acc))=true then acc++[x] else acc) acc)/\
   (∀x∈acc,x∈l.foldl (fun acc x=>if (decide (0<=x) && decide (x<m.n) && !decide (x∈acc))=true then acc++[x] else acc) acc)/\∀x∈l,0<=x->x<m.n->x∈l.foldl (fun acc x=>if (decide (0<=x) && decide (x<m.n) && !decide (x∈acc))=true then acc++[x] else acc) acc:=by
  intro l
  induction l with
  | nil=>intro acc _ h;exact ⟨h,fun x hx=>hx,fun x hx=>by cases hx⟩
  | cons z l ih=>
   intro acc D h;rw [List.foldl_cons];by_cases d:(decide (0<=z) && decide (z<m.n) && !decide (z∈acc))=true
   ·rw [if_pos d];simp only [Dm,Bool.not_eq_true',Dw,Dj] at d
    obtain ⟨h1,h2,o⟩:=ih (acc++[z]) (fun x hx=>D x (Dt _ hx)) ⟨by
     rw [List.nodup_append];refine ⟨h.nd,by simp,fun a G b E=>?_⟩;rw [DD] at E;rintro rfl;subst E;exact d.2 G,fun x hx=>by
     rcases DK.1 hx with hx | hx
     ·exact h.rg x hx
     ·rw [DD] at hx;subst hx;exact d.1,fun x hx=>by
     rcases DK.1 hx with hx | hx
     ·exact h.rp x hx
     ·rw [DD] at hx;subst hx;exact RP.base (D x (DH ..)) d.1.1 d.1.2⟩
    refine ⟨h1,fun x hx=>h2 x (List.mem_append_left _ hx),fun x hx a b=>?_⟩;rcases DJ.1 hx with rfl | hx
    ·exact h2 x (by simp)
    ·exact o x hx a b
   ·rw [if_neg d];obtain ⟨h1,h2,o⟩:=ih acc (fun x hx=>D x (Dt _ hx)) h;refine ⟨h1,h2,fun x hx a b=>?_⟩;rcases DJ.1 hx with rfl | hx
    ·refine h2 x ?_;simp only [Dm,Bool.not_eq_true',Dw,Dj] at d;by_cases hm:x∈acc
     ·exact hm
     ·exact absurd ⟨⟨a,b⟩,hm⟩ d
    ·exact o x hx a b
 have h:=key f [] (fun _ h=>h) ⟨List.nodup_nil,fun x hx=>absurd hx DO,fun x hx=>absurd hx DO⟩;exact ⟨h.1,h.2.2⟩
theorem mem_reachX (d:Dim m) (x:Int):x∈reachX m t f us↔RP m t f us x:=by
 have E:=start_gk m t us f;have o:=growN_gk (t:=t) (f:=f) (us:=us) d (m.n.toNat+1) E.1
 have G:Closed m t us (reachX m t f us):=by
  rcases growN_or (m:=m) (t:=t) (us:=us) (m.n.toNat+1) (start m f) with h | h
  ·exact h
  ·have:=BL o.nd m.n o.rg;omega
 constructor
 ·exact fun h=>o.rp x h
 ·intro h;exact h (fun x=>x∈reachX m t f us) (fun y D h0 h1=>growN_sub _ _ y (E.2 y D h0 h1)) (fun y z D I h1 h2=>G y D z I h1 h2)
end
theorem reachL_x {m:MZ} (d:Dim m) (t:Nat) (f us:List Int):BX m t f us=((List.range m.n.toNat).map Int.ofNat).filter fun x=>decide (x∈reachX m t f us):=by
 rw [reachL_of (fun x=>mem_reachX d x)]
theorem reachL_pw (m:MZ) (t:Nat) (f us:List Int):(BX m t f us).Pairwise (·<·):=by
 unfold BX;apply List.Pairwise.filter;rw [List.pairwise_map];exact List.Pairwise.imp (fun h=>by simpa using h) List.pairwise_lt_range
end
section
open Go.RowKit
attribute [local go_sem ↓] Go.wp_at_zero Go.wp_at_succ
def isChB (m:MZ) (ch:List Int):Bool:=(List.range ch.length).all fun k=>decide (ch.getD k 0∈cand m (ch.take k))
theorem isCh_of {m:MZ} {ch:List Int} (h:∀k,k<ch.length->ch.getD k 0∈cand m (ch.take k)):∀k,k<=ch.length->zG m (ch.take k)
 | 0,_=>by simpa using zG.nil
 | k+1,d=>by
  rw [Dg (by omega)];have h1:=h k (by omega);rw [CX,CW (by omega),Option.getD_some] at h1;exact .snoc (isCh_of h k (by omega)) h1
theorem Ck {m:MZ}:isChB m ch=true↔zG m ch:=by
 unfold isChB;rw [DT];constructor
 ·intro h;have:=isCh_of (m:=m) (ch:=ch) (fun k d=>DU (h k (DR.2 d))) ch.length (CY _)
  rwa [Dl] at this
 ·intro h k d;have d:=DR.1 d;rw [Dj,CX,CW d,Option.getD_some];exact h.at d
def okC (m:MZ) (ch:List Int):Bool:=decide (Cc m=0) && isChB m ch
def SoPost (w:World) (Y:Nat->Prop) (m:MZ) (ch:List Int) (e:Ending) (w':World):Prop:=
 ∃v,e=.returned (.tuple #[v,.bool (okC m ch)])/\za w w'/\((okC m ch=false/\v=.pointer none)\/(okC m ch=true/\∃p,v=.pointer (some ⟨p,0,none⟩)/\StC w' (fun b=>Y b\/w.heap.size<=b) p m ch))
theorem okC_true {m:MZ} (h:okC m ch=true):AF m/\zG m ch:=by
 unfold okC at h;rw [Dm,Dj] at h;exact ⟨AF.of h.1,Ck.1 h.2⟩
theorem stateOf_calls {m:MZ} (w:World) (hm:zL w Y v m) (hl:Lens m) (d5:zk w okc vc ch) (f1:ch.length<=20000000000000):
  Calls Tryz.prog 105 #[v,vc] w (SoPost w Y m ch):=by
 have b4:=hm;obtain ⟨vfr,vup,vts,rfl,_,_,_⟩:=hm;have a5:=zh b4;clear b4;obtain ⟨Ac,cc,rfl,f0,b5⟩:=d5;have b8:=zh b5;clear b5;have HL:=zh hl;clear hl;obtain ⟨ck,a9⟩:=DX (Cc m);have O:=zh a9;clear a9
 go_enter Tryz.func105,Tryz.ntmps105
 go_wp2_with fail
 generalize a2:w.alloc (.cells #[.int .i64 m.w,.int .i64 m.h,.int .i64 m.l,vfr,vup,vts] 35)=w1;have a8:za w w1:=by rw [<-a2];exact (za.refl w).alloc _
 have b2:ze w1 w.heap.size 35 #[.int .i64 m.w,.int .i64 m.h,.int .i64 m.l,vfr,vup,vts]:=by rw [<-a2];exact DI _ _
 clear a2;obtain ⟨m0,m1,m2,m3,m4,m5⟩:=zt b2;have c0:=za.rule m0;have c1:=za.rule m1;have c2:=za.rule m2;have c3:=za.rule m3;have c4:=za.rule m4;have c5:=za.rule m5;clear m0 m1 m2 m3 m4 m5 b2;refine (Bv w1 (a5.out.below a8) HL.out).mono ?_;rintro e w2 ⟨rfl,a3⟩;have a3:za w1 w2:=a3;have a7:za w w2:=a8.trans a3;rw [<-O.out];by_cases h0:ck=0
 case neg=>
  have f2:(ck==0)=false:=by rw [Dn];exact h0
  have f3:(ck != 0)=true:=by rw [bne_iff_ne];exact h0
  have D:okC m ch=false:=by unfold okC;rw [<-O.out,Dc h0];rfl
  have d:SoPost w Y m ch (.returned (.tuple #[.pointer none,.bool false])) w2:=⟨.pointer none,by rw [D],a7,.inl ⟨D,rfl⟩⟩;have o:=zh d;clear d D h0
  go_wp2_with fail
  go_ret2
  exact o.out
 case pos=>
  subst h0;have HG:=zh (AF.of O.out.symm);have G:=HG.out.dim;have d9:=G.n1;have b3:=G.layer;have HD:=zh G;clear G;have a1:Hid (okC m ch=isChB m ch):=by show _=_;unfold okC;rw [<-O.out];rfl
  go_wp2_with fail
  refine (zR m.w m.h m.l vfr vup vts w2 (by omega) (by omega)).mono ?_;rintro e w3 ⟨rfl,U⟩;have U:za w2 w3:=U;have Q:za w w3:=a7.trans U;have e4:za w1 w3:=za.trans ‹za w1 w2› U;by_cases J:m.w*m.h*m.l<(ch.length:Int)
  ·have b1:decide (m.w*m.h*m.l<(ch.length:Int))=true:=Db J
   have D:okC m ch=false:=by
    rw [a1.out,Bool.eq_false_iff];intro h;have h1:=(Ck.1 h).len HG.out;have h2:m.n=m.w*m.h*m.l:=rfl;omega
   have d:SoPost w Y m ch (.returned (.tuple #[.pointer none,.bool false])) w3:=⟨.pointer none,by rw [D],Q,.inl ⟨D,rfl⟩⟩;have o:=zh d;clear d D
   go_wp2_with fail
   go_ret2
   exact o.out
  ·have b1:decide (m.w*m.h*m.l<(ch.length:Int))=false:=Dc J;have d7:ch.length<=300:=by omega
   clear J b3 d9
   go_wp2_with fail
   refine (begin_c w3 (a5.out.below Q) (by have:=HG.out.tk;omega)).mono ?_;rintro e w4 ⟨p,rfl,e0,a0⟩;have c6:za w w4:=Q.trans e0
   have H0:Hid (StC w4 (fun b=>Y b\/w.heap.size<=b) p m (ch.take 0)):=by
    have:=Q.size
    exact a0.weaken fun b hb=>by
     rcases hb with hb | hb
     ·exact .inl hb
     ·exact .inr (by omega)
   have V:Hid (zG m (ch.take 0)):=by show zG m (ch.take 0);simpa using zG.nil
   clear a0 b1 c0 c1 c2 c3 c4 c5
   go_wp2_with fail
   go_loopg [6,23] ch.length (fun gk v6 v wr=>∃(k p:Nat),v6=.pointer (some ⟨p,0,none⟩)/\v=.int .i64 k/\k<=ch.length/\gk=ch.length - k/\Hid (StC wr (fun b=>Y b\/w.heap.size<=b) p m (ch.take k))/\Hid (zG m (ch.take k))/\Hid (za w wr))
   case atStart=>exact ⟨0,p,rfl,rfl,Do _,rfl,H0,V,c6⟩
   clear H0 V
   case round=>
    obtain ⟨k,p,rfl,rfl,hk,rfl,hS,hI,hX⟩:=hrel;have M:=hX.out;rcases Dv k ch.length with K | hge
    ·obtain ⟨bc,oc,rfl,_,E⟩:=Am b8.out K K;obtain ⟨n,hn⟩:=DX (ch[k]);rw [<-hn] at E;have q0:=za.rule E;have HN:=zh hn;clear E hn
     go_wp2_with fail
     refine (candidates_c wr hS.out HG.out HL.out hI.out).mono ?_;rintro e w6 ⟨v6,rfl,hM⟩;have L:za wr w6:=hM.ext;have HM:=zh hM.ints;clear hM
     go_wp2_with fail
     refine (zS n w6 HM.out (by have:=cand_len HL.out (ch.take k);omega)).mono ?_;rintro e w7 ⟨rfl,rfl⟩;by_cases I:n∈cand m (ch.take k)
     ·rw [Db I];have a6:=zh I;clear I;have b0:Hid (ch.take k++[n]=ch.take (k+1)):=by show _=_;rw [Dg K,HN.out]
      go_wp2_with fail
      refine (with_c w6 (hS.out.ext L) HG.out HL.out hI.out a6.out).mono ?_;rintro e w8 ⟨q,rfl,b6,hq⟩
      have HQ:Hid (StC w8 (fun b=>Y b\/w.heap.size<=b) q m (ch.take (k+1))):=by
       have:=(M.trans L).size;rw [<-b0.out]
       exact hq.weaken fun b hb=>by
        rcases hb with hb | hb
        ·exact hb.1
        ·exact .inr (by omega)
      have c7:Hid (zG m (ch.take (k+1))):=by rw [<-b0.out];exact .snoc hI.out a6.out
      have d4:Hid (za w w8):=M.trans (L.trans b6);clear hq b6 L M
      go_wp2_with fail
      go_roundg (ch.length - (k+1))
      case measure=>omega
      case rel=>exact ⟨k+1,q,rfl,by go_num,K,rfl,HQ,c7,d4⟩
     ·rw [Dc I]
      have D:okC m ch=false:=by
       rw [a1.out,Bool.eq_false_iff];intro h;have h1:=(Ck.1 h).at K;rw [<-HN.out] at h1;exact I h1
      have d:SoPost w Y m ch (.returned (.tuple #[.pointer none,.bool false])) w6:=⟨.pointer none,by rw [D],M.trans L,.inl ⟨D,rfl⟩⟩;have o:=zh d;clear d D I
      go_wp2_with fail
      go_ret2
      exact o.out
    ·have d6:k=ch.length:=by omega
     subst d6;have b9:Hid (ch.take ch.length=ch):=Dl
     have d:SoPost w Y m ch (.returned (.tuple #[.pointer (some ⟨p,0,none⟩),.bool true])) wr:=by
      have h1:=hI.out;have h2:=hS.out;rw [b9.out] at h1 h2;have h3:okC m ch=true:=by rw [a1.out];exact Ck.2 h1
      exact ⟨_,by rw [h3],M,.inr ⟨h3,p,rfl,h2⟩⟩
     have o:=zh d;clear d
     go_wp2_with fail
     go_ret2
     exact o.out
def zP (m:MZ) (ch:List Int):List Int:=if okC m ch=true then cand m ch else []
theorem Ce {m:MZ} (w:World) (hm:zL w Y v m) (V:Lens m) (G:zk w okc vc ch) (O:ch.length<=20000000000000):
  Calls Tryz.prog 77 #[v,vc] w fun e w'=>∃v',e=.returned v'/\Mk w w' v' (zP m ch):=by
 have I:=hm;obtain ⟨vfr,vup,vts,rfl,_,_,_⟩:=hm;have M:=zh I;clear I;have Q:=zh V;clear V;have L:=zh G;obtain ⟨Ac,cc,rfl,a2,_⟩:=G;obtain ⟨ok,J⟩:=DX (okC m ch);have d:=zh J;clear J
 go_enter Tryz.func77,Tryz.ntmps77
 go_wp2_with fail
 generalize K:w.alloc (.cells #[.int .i64 m.w,.int .i64 m.h,.int .i64 m.l,vfr,vup,vts] 35)=w1;have D:za w w1:=by rw [<-K];exact (za.refl w).alloc _
 clear K;refine (stateOf_calls w1 (M.out.below D) Q.out (L.out.below D) O).mono ?_;rintro e w2 ⟨v2,rfl,hE,hp⟩;rw [<-d.out];rw [<-d.out] at hp;have E:za w w2:=D.trans hE;rcases hp with ⟨h1,rfl⟩ | ⟨h1,p,rfl,h2⟩
 ·subst h1
  have o:Hid (Mk w w2 (.slice none 0 0) (zP m ch)):=by
   show Mk _ _ _ _;unfold zP;rw [<-d.out];exact Mk.nil' E
  go_wp2_with fail
  go_ret;exact ⟨_,rfl,o.out⟩
 ·subst h1;have HS:=zh h2;clear h2
  go_wp2_with fail
  refine (candidates_c w2 HS.out (okC_true d.out.symm).1 Q.out (okC_true d.out.symm).2).mono ?_;rintro e w3 ⟨v3,rfl,U⟩
  have o:Hid (Mk w w3 v3 (zP m ch)):=by
   show Mk _ _ _ _;unfold zP;rw [<-d.out,if_pos rfl];exact E.mono_mk U
  clear U
  go_wp2_with fail
  go_ret;exact ⟨_,rfl,o.out⟩
end
section
open Go.RowKit
theorem Cz {l:List Int} (h:zT w B v l):∃A n c,v=.slice A n c:=by
 obtain ⟨A,c,e,_⟩:=Az h;exact ⟨A,_,c,e⟩
end
section
open Go.RowKit
attribute [local go_sem ↓] Go.wp_at_zero Go.wp_at_succ
theorem reachL_le (m:MZ) (t:Nat) (f us:List Int) (g:AF m):(BX m t f us).length<=20000000000000:=by
 unfold BX;refine Da (DA _ _) ?_;have h1:=g.dim.n1;have h2:m.n=m.w*m.h*m.l:=rfl;simp;omega
def zl (m:MZ) (ch:List Int):List (List Int):=if okC m ch=true then (Ao m ch).filter (fun p=>decide (p.length≠0)) else []
end
section
open Go.RowKit
inductive PT where
 | node (task:Int) (side:List Int) (kids:List PT)
def PT.task:PT->Int | .node t _ _=>t
def PT.side:PT->List Int | .node _ s _=>s
def PT.kids:PT->List PT | .node _ _ k=>k
def PT.zero:PT:=.node 0 [] []
def endB (m:MZ) (pp:List (List Int)) (t:Nat):Bool:=match (pp.getD t []).getLast? with
 | none=>false
 | some x=>decide (x∈(m.tasks.getD t ([],[])).2)
def curF (m:MZ) (pp:List (List Int)):Nat->Nat->Nat
 | 0,t=>t
 | f+1,t=>if t<pp.length/\endB m pp t=true then curF m pp f (t+1) else t
def zD (m:MZ) (ch:List Int):Nat:=curF m (zl m ch) (zl m ch).length 0
def AC (m:MZ) (ch:List Int) (t:Nat):List Int:=if t<(zl m ch).length then ((zl m ch).getD t []).getLast?.toList else (m.tasks.getD t ([],[])).1.filter fun n=>zg m t n && !decide (n∈ch)
noncomputable def BE (m:MZ) (ch:List Int) (t:Nat):List Int:=reachO m t (AC m ch t) ch
noncomputable def offB (m:MZ) (ch:List Int) (t:Nat):Bool:=!((BE m ch t).any fun n=>decide (n∈(m.tasks.getD t ([],[])).2)) && (decide (BE m ch t≠[]) || decide (zD m ch<t))
noncomputable def cutT (m:MZ) (ch:List Int):Option Nat:=((List.range (m.tasks.length - zD m ch)).map (zD m ch+·)).find? (offB m ch)
def zF (f:Int->Nat->Int×PT×Nat):List Int->Nat->List PT->Int×List PT×Nat
 | [],k,acc=>(0,acc,k)
 | n :: l,k,acc=>if (f n k).1=0 then zF f l (f n k).2.2 (acc++[(f n k).2.1]) else ((f n k).1,[],(f n k).2.2)
noncomputable def zn (m:MZ):Nat->List Int->Nat->Int×PT×Nat
 | 0,_,k=>(53,.zero,k)
 | f+1,ch,k=>
  if m.tasks.length<=zD m ch then (51,.zero,k)
  else if 3000<k+1 then (53,.zero,k+1)
  else match cutT m ch with
   | some t=>(0,.node t (BE m ch t) [],k+1)
   | none=>
    let r:=zF (fun n k=>zn m f (ch++[n]) k) (zP m ch) (k+1) []
    if r.1=0 then (0,.node (zD m ch) [] r.2.1,r.2.2) else (r.1,.zero,r.2.2)
noncomputable def makeP (m:MZ):Int×PT:=if Cc m=0 then ((zn m (m.n.toNat+2) [] 0).1,(zn m (m.n.toNat+2) [] 0).2.1) else (Cc m,.zero)
mutual
def PT.size:PT->Nat
 | .node _ _ ks=>1+PT.sizeL ks
def PT.sizeL:List PT->Nat
 | []=>0
 | k :: ks=>k.size+PT.sizeL ks
end
def incB (N:Int):Int->List Int->Bool
 | _,[]=>true
 | b,x :: l=>decide (b<x) && (decide (x<N) && incB N x l)
def wallB (m:MZ) (ch:List Int) (t:Nat) (s:List Int):Bool:=s.all fun n=>(Bz m n).all fun k=>!(zg m t k && !decide (k∈ch)) || decide (k∈s)
def cutB (m:MZ) (ch:List Int) (t:Int) (s:List Int) (nk:Nat):Bool:=
 if t<zD m ch\/(m.tasks.length:Int)<=t\/(t=zD m ch/\s=[])\/nk≠0 then false
 else incB m.n (-1) s && (!(s.any fun n=>decide (n∈(m.tasks.getD t.toNat ([],[])).2)) && ((AC m ch t.toNat).all (fun n=>decide (n∈s)) && wallB m ch t.toNat s))
mutual
def AB (m:MZ):PT->List Int->Bool
 | .node t s ks,ch=>if m.tasks.length<=zD m ch then false else if t≠zD m ch\/s≠[] then cutB m ch t s ks.length else AA m ks ch (zP m ch)
def AA (m:MZ):List PT->List Int->List Int->Bool
 | [],_,[]=>true
 | k :: ks,ch,n :: l=>AB m k (ch++[n]) && AA m ks ch l
 | [],_,_ :: _=>false
 | _ :: _,_,[]=>false
end
def Bf (m:MZ) (p:PT):Bool:=decide (Cc m=0) && (decide (0<m.tasks.length) && (decide (p.size<=3000) && AB m p []))
theorem mem_flat_iff {ps:List (List Int)} {x:Int}:x∈ps.flatten↔∃i,x∈ps.getD i []:=by
 rw [List.mem_flatten];constructor
 ·rintro ⟨p,hp,d⟩;obtain ⟨i,o,rfl⟩:=DC hp;exact ⟨i,by rw [CX,CW o];exact d⟩
 ·rintro ⟨i,d⟩;by_cases o:i<ps.length
  ·exact ⟨_,getD_mem o,d⟩
  ·rw [CX,Dr (by omega)] at d;cases d
end
end Go.Proofs.YtcnaogdgjkpkmaaGreatDoor
