import Derived.Test.YtjomnbdjajjgfaaGreatDoorWKq
import Derived.Lib.ItoaLen
set_option linter.unusedVariables false
set_option linter.unusedSimpArgs false
set_option maxRecDepth 100000
set_option maxHeartbeats 16000000
namespace Go.Proofs.YtjomnbdjajjgfaaGreatDoor
variable {cs:Array Value} {n:Int} {a b l:List UInt8} {B r:Nat} {X ok:Nat->Prop} {c:UInt8} {u v:Value} {w w':World}
section
open Go.RowKit Go.Shelf
attribute [local go_sem ↓] Go.wp_at_zero Go.wp_at_succ
structure zN (w:World):Prop where
 tab : Lib.TabIs Tryz.prog w "internal/strconv.uint64pow10" .u64 Lib.pow10Tab
 syn : ∃ tp p, w.var? Tryz.prog "strconv.ErrSyntax" = some #[.iface tp p]
 rng : ∃ tp p, w.var? Tryz.prog "strconv.ErrRange" = some #[.iface tp p]
theorem var_ext (E:za w w') {n:String} (h:w.var? Tryz.prog n=some cs):w'.var? Tryz.prog n=some cs:=by
 unfold World.var? at h⊢
 cases D:Tryz.prog.globalNamed n with
 | none=>rw [D] at h;cases h
 | some g=>
  rw [D] at h;simp only [Option.bind_some] at h⊢
  split at h
  ·rename_i o
   rw [E.block g (lt_heap o),o];exact h
  ·cases h
theorem zN.ext (h:zN w) (o:za w w'):zN w':=
 ⟨var_ext o h.tab,h.syn.imp fun _ ⟨p,h⟩=>⟨p,var_ext o h⟩,h.rng.imp fun _ ⟨p,h⟩=>⟨p,var_ext o h⟩⟩
theorem ret_str (h:a=b):Ending.returned (.string ⟨a.toArray⟩)=.returned (.string ⟨b.toArray⟩):=by rw [h]
def I64 (n:Int):Prop:=-9223372036854775808<=n/\n<=9223372036854775807
theorem grow_ext (w:World) (os:Array Obj):za w (Sort.grow w os):=⟨rfl,rfl,rfl,by simp [Sort.grow],fun k o=>by simp [Sort.grow,Array.getElem?_append,o]⟩
theorem itoa_calls (w:World) (D:zN w) (o:I64 n):Calls Tryz.prog 107 #[.int .i64 n] w fun e w'=>e=.returned (.string ⟨(Lib.itoa n).toArray⟩)/\za w w':=by
 refine (Any.strconv_Itoa sItoa n o.1 o.2 w D.tab).mono ?_;rintro e w' ⟨rfl,k,os,rfl⟩;exact ⟨rfl,((za.refl w).drewN k).trans (grow_ext _ os)⟩
def wI (n:Int):List UInt8:=Lib.itoa n++[59]
def wL (l:List Int):List UInt8:=91 :: (l.flatMap wI++[93])
theorem itoa_len (o:I64 n):(Lib.itoa n).length<=21:=Lib.itoa_length_le n o.1 o.2
theorem wI_len (o:I64 n):(wI n).length<=22:=by have:=itoa_len o;simp [wI];omega
theorem wIs_len:∀{l:List Int},(∀x∈l,I64 x)->(l.flatMap wI).length<=22*l.length
 | [],_=>by simp
 | x :: l,h=>by
  have h1:=wI_len (h x (ED ..));have h2:=wIs_len fun y o=>h y (El x o)
  rw [List.flatMap_cons,DZ,EW];omega
theorem add_str {x y:List UInt8} (h:x.length+y.length<=9223372036854775807):(Op.stringOp .add ⟨x.toArray⟩ ⟨y.toArray⟩).run Tryz.prog w=.ok (.string ⟨(x++y).toArray⟩) w:=by
 rw [run_string_add_sum w _ _ (by simpa [ByteArray.size] using h),ByteArray.mk_append_mk]
theorem wInt_calls (w:World) (I:zN w) (D:I64 n):Calls Tryz.prog 51 #[.int .i64 n] w fun e w'=>e=.returned (.string ⟨(wI n).toArray⟩)/\za w w':=by
 have E:=zh (itoa_calls w I D);have G:=itoa_len D;obtain ⟨d,o⟩:=EY (Lib.itoa n);have J:Hid (wI n=d++[59]):=by rw [o];rfl
 rw [<-o] at G E;have L:∀w,(Op.stringOp .add ⟨d.toArray⟩ ⟨#[59]⟩).run Tryz.prog w=.ok (.string ⟨(d++[59]).toArray⟩) w:=fun w=>add_str (y:=[59]) (by simp;omega)
 clear o G I D
 go_enter Tryz.func51,Tryz.ntmps51
 go_wp2_with fail
 refine E.out.mono ?_;rintro e w1 ⟨rfl,K⟩
 go_wp2_with fail
 go_ret;exact ⟨ret_str J.out.symm,K⟩
theorem bui_bytes (l:List UInt8) (c:UInt8):Lib.byteCells l++[Value.int .u8 c.toNat]=Lib.byteCells (l++[c]):=by simp [Lib.byteCells]
theorem bui_str (l s:List UInt8):Lib.byteCells l++Lib.strCells ⟨s.toArray⟩=Lib.byteCells (l++s):=by simp [Lib.byteCells,Lib.strCells]
theorem bui_len (l:List UInt8):(Lib.byteCells l).length=l.length:=by simp [Lib.byteCells]
theorem wInts_calls {l:List Int} (w:World) (hv:zN w) (hl:zk w ok v l) (hn:∀x∈l,I64 x) (b4:l.length<=1000000000000):Calls Tryz.prog 108 #[v,.func (.func 51) #[] #[]] w fun e w'=>e=.returned (.string ⟨(wL l).toArray⟩)/\za w w':=by
 have HL:=zh hl;have HV:=zh hv;have HN:=zh hn;obtain ⟨A,c,rfl,hc,hr⟩:=hl;clear hn hv hr
 go_enter Tryz.func108,Tryz.ntmps108
 go_wp2_with fail
 have a1:=Bui.new w;refine (wByte_calls 91 a1 (by simp)).mono ?_;rintro e w1 ⟨rfl,a2,a3⟩;have U:Hid (Bui w.heap.size (Lib.byteCells [91]) w1):=.inr a2;have V:Hid (za w w1):=((Below.refl _ _).alloc (DR _) _).trans a3;clear a1 a2 a3
 go_wp2_with fail
 go_loopw [11] (fun i wr=>∃k:Nat,k<=l.length/\i=.int .i64 k/\Hid (Bui w.heap.size (Lib.byteCells (91 :: (l.take k).flatMap wI)) wr)/\Hid (za w wr)) (fun i _=>l.length - (intOf i).toNat)
 case atStart=>exact ⟨0,Ef _,rfl,U,V⟩
 clear U V
 case round=>
  obtain ⟨k,hk,rfl,HB,HE⟩:=hrel
  have o:(91 :: (l.take k).flatMap wI).length<=1+22*l.length:=by
   have h1:=wIs_len (l:=l.take k) fun x Q=>HN.out x (List.mem_of_mem_take Q)
   simp at h1⊢;omega
  by_cases M:k<l.length
  ·have hR:=HL.out.below HE.out;obtain ⟨A',c',e',-,hr⟩:=hR;injection e' with e1 e2 e3;subst e1;obtain ⟨b,off,rfl,-,E⟩:=zE hr M M;obtain ⟨x,Q⟩:=EY (l[k]);rw [<-Q] at E;have O:I64 x:=by rw [Q];exact HN.out _ (DS _)
   have hs:(l.take (k+1)).flatMap wI=(l.take k).flatMap wI++wI x:=by rw [DY M,List.flatMap_append,Q];simp
   have HS:=zh hs;have HX:=zh (wI_len O);have HC:=zh (wInt_calls wr (HV.out.ext HE.out) O);have HR:=zh o;clear Q O hs hr e2 e3 o
   go_wp2_with fail
   refine HC.out.mono ?_;rintro e w2 ⟨rfl,L⟩;have D:=HB.out.old L;have G:(Lib.byteCells (91 :: (l.take k).flatMap wI)).length+(wI x).toArray.size<=140737488355328:=by have:=HX.out;have:=HR.out;rw [bui_len];simp at this⊢;omega
   go_wp2_with fail
   refine (wString_calls ⟨(wI x).toArray⟩ D G).mono ?_;rintro e w3 ⟨rfl,K,I⟩;rw [bui_str] at K;have a9:Hid (Bui w.heap.size (Lib.byteCells (91 :: (l.take (k+1)).flatMap wI)) w3):=by rw [HS.out];exact .inr K
   have b0:Hid (za w w3):=Below.trans (HE.out.trans L) I;clear D G K I L E
   go_wp2_with fail
   go_roundw
   case rel=>exact ⟨k+1,by omega,by go_num,a9,b0⟩
   case measure=>simp [intOf];omega
  ·obtain rfl:k=l.length:=by omega
   rw [Ec] at HB o;have G:(Lib.byteCells (91 :: l.flatMap wI)).length+1<=140737488355328:=by rw [bui_len];omega
   have b1:=zh G;clear o G
   go_wp2_with fail
   refine (wByte_calls 93 HB.out b1.out).mono ?_;rintro e w2 ⟨rfl,D,a4⟩
   have J:Bui w.heap.size (Lib.byteCells (wL l)) w2:=by
    have:=D;rw [show Value.int .u8 93=Value.int .u8 (93:UInt8).toNat from rfl,bui_bytes] at this;exact .inr this
   have a8:=zh J;have a0:Hid (za w w2):=Below.trans HE.out a4;clear D J a4
   go_wp2_with fail
   refine (bOut_calls a8.out a0.out.size).mono ?_;rintro e w3 ⟨rfl,I⟩
   go_wp2_with fail
   go_ret;exact ⟨rfl,Below.trans a0.out I⟩
theorem wireInts_calls {l:List Int} (w:World) (G:zN w) (D:zk w ok v l) (E:∀x∈l,I64 x) (o:l.length<=1000000000000):Calls Tryz.prog 52 #[v] w fun e w'=>e=.returned (.string ⟨(wL l).toArray⟩)/\za w w':=by
 have I:=zh (wInts_calls w G D E o);obtain ⟨A,c,rfl,-,-⟩:=D;clear G E
 go_enter Tryz.func52,Tryz.ntmps52
 go_wp2_with fail
 refine I.out.mono ?_;rintro e w1 ⟨rfl,J⟩
 go_wp2_with fail
 go_ret;exact ⟨rfl,J⟩
def cutAt (c:UInt8):List UInt8->Option (List UInt8×List UInt8)
 | []=>none
 | b :: l=>if b==c then some ([],l) else (cutAt c l).map fun p=>(b :: p.1,p.2)
theorem cutAt_none {c:UInt8}:∀{l:List UInt8},cutAt c l=none->Lib.indexByte l c=-1
 | [],_=>rfl
 | b :: l,h=>by
  unfold cutAt at h;unfold Lib.indexByte
  split at h
  ·cases h
  ·rename_i o
   rw [Option.map_eq_none_iff] at h;rw [if_neg o,cutAt_none h];rfl
theorem Dg {c:UInt8}:∀{l a b:List UInt8},cutAt c l=some (a,b)->Lib.indexByte l c=a.length/\l=a++c :: b
 | [],a,b,h=>by cases h
 | x :: l,a,b,h=>by
  unfold cutAt at h;unfold Lib.indexByte
  split at h
  ·rename_i o
   injection h with h;injection h with h1 h2;subst h1 h2;rw [if_pos o,(beq_iff_eq.1 o)];exact ⟨rfl,rfl⟩
  ·rename_i o
   obtain ⟨p,hp,e⟩:=Option.map_eq_some_iff.1 h;injection e with h1 h2;subst h1 h2;obtain ⟨h3,D⟩:=Dg (a:=p.1) (b:=p.2) hp;rw [if_neg o,h3,if_neg (by simp),D];exact ⟨by simp,rfl⟩
theorem ext_take (l:List UInt8) (n:Nat):(ByteArray.mk l.toArray).extract 0 n=⟨(l.take n).toArray⟩:=by
 apply ByteArray.ext;simp [ByteArray.data_extract]
theorem ext_drop (l:List UInt8) (n:Nat):(ByteArray.mk l.toArray).extract n l.length=⟨(l.drop n).toArray⟩:=by
 apply ByteArray.ext;simp [ByteArray.data_extract];exact List.take_of_length_le (by simp)
theorem lcut_no (w:World) (h:cutAt c l=none):Calls Tryz.prog 246 #[.string ⟨l.toArray⟩,.string ⟨#[c]⟩] w fun e w'=>e=.returned (.tuple #[.string ⟨l.toArray⟩,.string ⟨#[]⟩,.bool false])/\w=w':=by
 have D:=zh (Any.stringslite_Index_one sIdx ⟨l.toArray⟩ c w);have E:=cutAt_none h;have o:Lib.indexByte (ByteArray.mk l.toArray).data.toList c=-1:=E;rw [o] at D;clear E o h
 go_enter Tryz.func246,Tryz.ntmps246
 go_wp2_with fail
 refine D.out.mono ?_;rintro e w1 ⟨rfl,rfl⟩
 go_wp2_with fail
 exact EL (by simp [results,Tryz.results246,go_sem]) rfl ⟨rfl,rfl⟩
theorem lcut_yes (w:World) (h:cutAt c l=some (a,b)) (J:l.length<=9223372036854775000):Calls Tryz.prog 246 #[.string ⟨l.toArray⟩,.string ⟨#[c]⟩] w fun e w'=>e=.returned (.tuple #[.string ⟨a.toArray⟩,.string ⟨b.toArray⟩,.bool true])/\∃n,w'=w.drewN n:=by
 have D:=zh (Any.stringslite_Index_one sIdx ⟨l.toArray⟩ c w);obtain ⟨G,he⟩:=Dg h;have o:Lib.indexByte (ByteArray.mk l.toArray).data.toList c=a.length:=G;rw [o] at D;have I:a.length+1<=l.length:=by rw [he];simp
 have E:=zh he;clear G o h he
 go_enter Tryz.func246,Tryz.ntmps246
 go_wp2_with fail
 refine D.out.mono ?_;rintro e w1 ⟨rfl,rfl⟩
 go_wp2_with fail
 go_quiet (fail)
 have e1:ByteArray.extract ⟨l.toArray⟩ 0 a.length=⟨a.toArray⟩:=by rw [ext_take,E.out];simp
 have e2:ByteArray.extract ⟨l.toArray⟩ (a.length+1) l.length=⟨b.toArray⟩:=by rw [ext_drop,E.out];simp
 rw [e1,e2]
 go_wp2_with fail
 exact EL (by simp [results,Tryz.results246,go_sem]) rfl ⟨rfl,_,rfl⟩
theorem cut_no (w:World) (h:cutAt c l=none):Calls Tryz.prog 234 #[.string ⟨l.toArray⟩,.string ⟨#[c]⟩] w fun e w'=>e=.returned (.tuple #[.string ⟨l.toArray⟩,.string ⟨#[]⟩,.bool false])/\w=w':=by
 have o:=zh (lcut_no w h);clear h
 go_enter Tryz.func234,Tryz.ntmps234
 go_wp2_with fail
 refine o.out.mono ?_;rintro e w1 ⟨rfl,rfl⟩
 go_wp2_with fail
 exact EL (by simp [results,Tryz.results234,go_sem]) rfl ⟨rfl,rfl⟩
theorem cut_yes (w:World) (h:cutAt c l=some (a,b)) (D:l.length<=9223372036854775000):Calls Tryz.prog 234 #[.string ⟨l.toArray⟩,.string ⟨#[c]⟩] w fun e w'=>e=.returned (.tuple #[.string ⟨a.toArray⟩,.string ⟨b.toArray⟩,.bool true])/\∃n,w'=w.drewN n:=by
 have o:=zh (lcut_yes w h D);clear h
 go_enter Tryz.func234,Tryz.ntmps234
 go_wp2_with fail
 refine o.out.mono ?_;rintro e w1 ⟨rfl,n,rfl⟩
 go_wp2_with fail
 exact EL (by simp [results,Tryz.results234,go_sem]) rfl ⟨rfl,_,rfl⟩
abbrev AZ (w:World) (r:Nat) (s:List UInt8×Bool):Prop:=zd w r 216 #[.string ⟨s.1.toArray⟩,.bool s.2]
theorem wNew_calls (l:List UInt8) (w:World):Calls Tryz.prog 112 #[.string ⟨l.toArray⟩] w fun e w'=>e=.returned (.pointer (some ⟨w.heap.size,0,none⟩))/\za w w'/\AZ w' w.heap.size (l,false):=by
 go_enter Tryz.func112,Tryz.ntmps112
 go_wp2_with fail
 go_ret;exact ⟨rfl,(za.refl w).alloc _,zd.new _ _ _ rfl⟩
theorem CP {s:List UInt8×Bool} (w:World) (h:AZ w r s):Calls Tryz.prog 114 #[.pointer (some ⟨r,0,none⟩)] w fun e w'=>e=.returned (.bool s.2)/\w=w':=by
 have c1:=h.cell (k:=1) rfl;clear h
 go_enter Tryz.func114,Tryz.ntmps114
 go_wp2_with fail
 go_ret;exact ⟨rfl,rfl⟩
def AC (s:List UInt8×Bool):Nat:=if s.2=true then 0 else s.1.length
theorem DI {s:List UInt8×Bool} (w:World) (h:AZ w r s):Calls Tryz.prog 115 #[.pointer (some ⟨r,0,none⟩)] w fun e w'=>e=.returned (.int .i64 (AC s:Nat))/\w=w':=by
 have o:=zh (CP w h);have c0:=h.cell (k:=0) rfl;obtain ⟨l,b⟩:=s;clear h;dsimp only at o c0
 cases b with
 | true=>
  go_enter Tryz.func115,Tryz.ntmps115
  go_wp2_with fail
  refine o.out.mono ?_;rintro e w1 ⟨rfl,rfl⟩
  go_wp2_with fail
  go_ret;exact ⟨rfl,rfl⟩
 | false=>
  go_enter Tryz.func115,Tryz.ntmps115
  go_wp2_with fail
  refine o.out.mono ?_;rintro e w1 ⟨rfl,rfl⟩
  go_wp2_with fail
  go_ret;exact ⟨rfl,rfl⟩
theorem De {a b:World} (h:zp X a b) (g k:Nat) (v:Value) (D:X g):zp X a (b.setCell ⟨g,k,none⟩ v):=
 ⟨h.os,h.tape,h.output,DT h.size (by simp [World.setCell]),fun i E o=>(Ea b ⟨g,k,none⟩ v i (fun e=>o (e ▸ D))).trans (h.block i E o)⟩
theorem DH (w:World) (h:zd w r 216 #[u,v]):Calls Tryz.prog 223 #[.pointer (some ⟨r,0,none⟩)] w fun e w'=>e=.returned (.tuple #[])/\zp (·=r) w w'/\AZ w' r ([],true):=by
 have c0:=h.cell (k:=0) rfl;have c1:=h.cell (k:=1) rfl;have hf:∀k,w.frozen? ⟨r,k,none⟩=false:=fun k=>h.frozen k
 have H:=zh h;clear h
 go_enter Tryz.func223,Tryz.ntmps223
 go_wp2_with fail
 refine bodyPost_end (results_none rfl _ _ _) rfl ⟨rfl,De (X:=(·=r)) (De (zp.refl _ _) r 1 _ rfl) r 0 _ rfl,?_⟩;exact (H.out.set (k:=1) _).set (k:=0) _
def numP (c:UInt8) (l:List UInt8):Option (Int×List UInt8):=match cutAt c l with
 | none=>none
 | some (a,b)=>match Lib.atoiAll a with
  | .ok v=>if Lib.itoa v=a then some (v,b) else none
  | _=>none
theorem Cb {a b:World} (h:za a b):zp X a b:=zp.of_ext h
theorem chg_drew (w:World) (n:Nat):zp X w (w.drewN n):=zp.of_ext ((za.refl w).drewN n)
def numS (c:UInt8) (s:List UInt8×Bool):Option (Int×List UInt8):=if s.2=true then none else numP c s.1
def NumPost (r:Nat) (o:Option (Int×List UInt8)) (w:World) (e:Ending) (w':World):Prop:=
 zp (·=r) w w'/\(∀v b,o=some (v,b)->e=.returned (.tuple #[.int .i64 v,.bool true])/\AZ w' r (b,false))/\(o=none->e=.returned (.tuple #[.int .i64 0,.bool false])/\AZ w' r ([],true))
def NumFr (r:Nat) (a:Act):Prop:=∃u1 u2 u3 u4 u5 u6 u7 u8 u9 u10 u11 u12 u13 u14 u15 u16 u17 u18 u19 u20 u21 u22 u23 u24 u25 u26 u27 u28 u29 u30 u31 u32 u33 u34 u35 u36 u37 u38 u39 u40:Value,a={ tmps:=#[.pointer (some ⟨r,0,none⟩),u1,u2,u3,u4,u5,u6,u7,u8,u9,u10,u11,u12,u13,u14,u15,u16,u17,u18,u19,u20,u21,u22,u23,u24,u25,u26,u27,u28,u29,u30,u31,u32,u33,u34,u35,u36,u37,u38,u39,u40],defers:=[] }
theorem var_chg (D:zp X w w') {n:String} {g:Nat} (G:Tryz.prog.globalNamed n=some g) (E:¬ X g) (h:w.var? Tryz.prog n=some cs):w'.var? Tryz.prog n=some cs:=by
 unfold World.var? at h⊢;rw [G] at h⊢;simp only [Option.bind_some] at h⊢
 split at h
 ·rename_i o
  rw [D.block g (lt_heap o) E,o];exact h
 ·cases h
theorem atoi_ok {v:Int} (w:World) (h:Lib.atoiAll a=.ok v) (o:a.length<=281474976710656):Calls Tryz.prog 235 #[.string ⟨a.toArray⟩] w fun e w'=>e=.returned (.tuple #[.int .i64 v,.nilIface])/\za w w':=by
 refine (Any.strconv_Atoi_ok sAtoi ⟨a.toArray⟩ (by simp [ByteArray.size];omega) v h w).mono ?_;rintro e w' ⟨rfl,rfl | ⟨t,rfl⟩⟩
 ·exact ⟨rfl,za.refl _⟩
 ·exact ⟨rfl,Lib.bytesWorld_below _ _ _⟩
theorem atoi_err (w:World) (G:zN w) (h:∀v,Lib.atoiAll a≠.ok v) (E:a.length<=281474976710656):Calls Tryz.prog 235 #[.string ⟨a.toArray⟩] w fun e w'=>∃n N,e=.returned (.tuple #[.int .i64 n,.iface 282 (.pointer (some ⟨N,0,none⟩))])/\za w w':=by
 rcases o:Lib.atoiAll a with v | _ | _
 ·exact absurd o (h v)
 ·obtain ⟨tp,p,hp⟩:=G.syn;refine (Any.strconv_Atoi_syntax_var sAtoi ⟨a.toArray⟩ (by simpa [ByteArray.size] using E) o tp p w hp).mono ?_;rintro e w' ⟨N,rfl,-,-,D⟩;exact ⟨_,_,rfl,D⟩
 ·obtain ⟨tp,p,hp⟩:=G.rng;refine (Any.strconv_Atoi_range_var sAtoi ⟨a.toArray⟩ (by simpa [ByteArray.size] using E) o tp p w hp).mono ?_;rintro e w' ⟨N,rfl,-,-,D⟩;exact ⟨_,_,rfl,D⟩
def isVar (g : Nat) : Prop := ∃ n, (n = "internal/strconv.uint64pow10" ∨ n = "strconv.ErrSyntax" ∨ n = "strconv.ErrRange") ∧ Tryz.prog.globalNamed n = some g
theorem BU (h:zN w) (hC:zp X w w') (hX:∀g,X g->¬ isVar g):zN w':=by
 have f : ∀ n, (n = "internal/strconv.uint64pow10" ∨ n = "strconv.ErrSyntax" ∨ n = "strconv.ErrRange") → ∀ cs, w.var? Tryz.prog n = some cs → w'.var? Tryz.prog n = some cs := fun n hn cs h => by
  cases hg:Tryz.prog.globalNamed n with
  | none=>unfold World.var? at h;rw [hg] at h;cases h
  | some g=>exact var_chg hC hg (fun hx=>hX g hx ⟨n,hn,hg⟩) h
 exact ⟨f _ (.inl rfl) _ h.tab,h.syn.imp fun _ ⟨p,h⟩=>⟨p,f _ (.inr (.inl rfl)) _ h⟩,h.rng.imp fun _ ⟨p,h⟩=>⟨p,f _ (.inr (.inr rfl)) _ h⟩⟩
theorem var_ne (h:zN w) (D:zd w r 216 #[u,v]):∀g,g=r->¬ isVar g:=by
 rintro g rfl ⟨n,G,E⟩
 have f:∀cs,w.var? Tryz.prog n=some cs->cs=#[u,v]:=fun cs h=>by
  unfold World.var? at h;rw [E] at h;have o:w.heap[g]?=some (.cells #[u,v] 216 (0,0)):=D;simp only [Option.bind_some,o] at h;injection h with h;exact h.symm
 rcases G with rfl | rfl | rfl
 ·have:=congrArg Array.size (f _ h.tab);simp [Lib.pow10Tab] at this
 ·obtain ⟨tp,p,h⟩:=h.syn;have:=congrArg Array.size (f _ h);simp at this
 ·obtain ⟨tp,p,h⟩:=h.rng;have:=congrArg Array.size (f _ h);simp at this
theorem number_calls {s:List UInt8×Bool} (c:UInt8) (w:World) (hv:zN w) (h:AZ w r s) (hl:s.1.length<=281474976710656):Calls Tryz.prog 218 #[.pointer (some ⟨r,0,none⟩),.string ⟨#[c]⟩] w (NumPost r (numS c s) w):=by
 have HB:=zh (CP w h);have HR:=zh h;have HV:=zh hv;obtain ⟨l,bad⟩:=s;have c0:=h.cell (k:=0) rfl;have hf:∀k,w.frozen? ⟨r,k,none⟩=false:=fun k=>h.frozen k
 dsimp only at HB HR c0 hl;clear h hv
 go_enter Tryz.func218,Tryz.ntmps218
 go_wp2_with fail
 refine wp_scope_jumps 0 (fun a' w'=>NumFr r a'/\Hid (numS c (l,bad)=none)/\Hid (zp (·=r) w w'/\∃u v,zd w' r 216 #[u,v])) (fun _ _=>0) rfl ?_ ?_
 ·go_wp2_with fail
  refine HB.out.mono ?_;rintro e w1 ⟨rfl,rfl⟩
  cases bad with
  | true=>
   go_wp2_with fail
   go_step3
   exact ⟨rfl,⟨_,_,_,_,_,_,_,_,_,_,_,_,_,_,_,_,_,_,_,_,_,_,_,_,_,_,_,_,_,_,_,_,_,_,_,_,_,_,_,_,rfl⟩,rfl,zp.refl _ _,_,_,HR.out⟩
  | false=>
   cases hc:cutAt c l with
   | none=>
    have K:Hid (numS c (l,false)=none):=by (show numS c (l,false)=none);unfold numS numP;rw [hc];rfl
    have HC:=zh (cut_no w hc);clear hc
    go_wp2_with fail
    refine HC.out.mono ?_;rintro e w2 ⟨rfl,rfl⟩
    go_wp2_with fail
    go_step3
    exact ⟨rfl,⟨_,_,_,_,_,_,_,_,_,_,_,_,_,_,_,_,_,_,_,_,_,_,_,_,_,_,_,_,_,_,_,_,_,_,_,_,_,_,_,_,rfl⟩,K,De (X:=(·=r)) (zp.refl _ _) r 0 _ rfl,_,_,HR.out.set (k:=0) _⟩
   | some p=>
    obtain ⟨a,b⟩:=p;have HC:=zh (cut_yes w hc (by omega));have b7:a.length<=l.length:=by have:=(Dg hc).2;rw [this];simp
    have K:Hid (numS c (l,false)=match Lib.atoiAll a with | .ok v=>if Lib.itoa v=a then some (v,b) else none | _=>none):=by
     (show numS c (l,false)=_);unfold numS numP;rw [hc];rfl
    clear hc
    go_wp2_with fail
    refine HC.out.mono ?_;rintro e w2 ⟨rfl,n2,rfl⟩;have I:Hid (zp (·=r) w ((w.drewN n2).setCell ⟨r,0,none⟩ (.string ⟨b.toArray⟩))):=De (X:=(·=r)) (chg_drew w n2) r 0 _ rfl;have L:Hid (AZ ((w.drewN n2).setCell ⟨r,0,none⟩ (.string ⟨b.toArray⟩)) r (b,false)):=zd.set (k:=0) (show zd (w.drewN n2) r 216 _ from HR.out) (.string ⟨b.toArray⟩);have V:=zh (BU HV.out I.out (var_ne HV.out HR.out));generalize b0:(w.drewN n2).setCell ⟨r,0,none⟩ (.string ⟨b.toArray⟩)=w3 at I L V
    go_wp2_with fail
    clear b0 HB c0 HC hf HR;by_cases M:∃v,Lib.atoiAll a=.ok v
    ·obtain ⟨v,hv⟩:=M;rw [hv] at K;have a5:=Lib.atoiAll_bounds hv;have G:=atoi_ok w3 hv (by omega);clear hv;refine G.mono ?_;rintro e w4 ⟨rfl,o⟩;have Q:=zh (itoa_calls w4 (V.out.ext o) ⟨a5.1,a5.2⟩);have J:=zh o;by_cases hs:Lib.itoa v=a
     ·have E:Hid (numS c (l,false)=some (v,b)):=by (show _=_);rw [K.out];simp [hs]
      rw [hs] at Q;clear G o hs K
      go_wp2_with fail
      refine Q.out.mono ?_;rintro e w5 ⟨rfl,D⟩;have O:Hid (zp (·=r) w w5):=(I.out.ext_r J.out).ext_r D;have U:Hid (AZ w5 r (b,false)):=(L.out.ext J.out).ext D;clear D
      go_wp2_with fail
      simp only [Exit.jump]
      go_ret2
      exact ⟨O.out,(fun v' b' h=>by rw [E.out] at h;injection h with h;injection h with h1 h2;subst h1 h2;exact ⟨rfl,U.out⟩),(fun h=>by rw [E.out] at h;cases h)⟩
     ·have E:Hid (numS c (l,false)=none):=by (show _=_);rw [K.out];simp [hs]
      have b8:(Lib.itoa v==a)=false:=by simp [hs]
      clear G o hs K
      go_wp2_with fail
      refine Q.out.mono ?_;rintro e w5 ⟨rfl,D⟩;have O:Hid (zp (·=r) w w5):=(I.out.ext_r J.out).ext_r D;have U:Hid (AZ w5 r (b,false)):=(L.out.ext J.out).ext D;clear D
      go_wp2_with fail
      go_step3
      exact ⟨rfl,⟨_,_,_,_,_,_,_,_,_,_,_,_,_,_,_,_,_,_,_,_,_,_,_,_,_,_,_,_,_,_,_,_,_,_,_,_,_,_,_,_,rfl⟩,E,O.out,_,_,U.out⟩
    ·have E:Hid (numS c (l,false)=none):=by
      (show _=_);rw [K.out]
      cases ha:Lib.atoiAll a with
      | ok v=>exact absurd ⟨v,ha⟩ M
      | _=>rfl
     have G:=atoi_err w3 V.out (fun v h=>M ⟨v,h⟩) (by omega);clear M K;refine G.mono ?_;rintro e w4 ⟨n,N,rfl,o⟩;have a7:Hid (zp (·=r) w w4):=I.out.ext_r o;have a8:Hid (AZ w4 r (b,false)):=L.out.ext o;clear G o
     go_wp2_with fail
     go_step3
     exact ⟨rfl,⟨_,_,_,_,_,_,_,_,_,_,_,_,_,_,_,_,_,_,_,_,_,_,_,_,_,_,_,_,_,_,_,_,_,_,_,_,_,_,_,_,rfl⟩,E,a7.out,_,_,a8.out⟩
 ·rintro a' w' ⟨⟨u1,u2,u3,u4,u5,u6,u7,u8,u9,u10,u11,u12,u13,u14,u15,u16,u17,u18,u19,u20,u21,u22,u23,u24,u25,u26,u27,u28,u29,u30,u31,u32,u33,u34,u35,u36,u37,u38,u39,u40,rfl⟩,hn,hw⟩;obtain ⟨hC,u,v,hb⟩:=hw.out;have HF:=zh (DH w' hb);have HC:=zh hC;clear hC hb hw
  go_wp2_with fail
  refine HF.out.mono ?_;rintro e w1 ⟨rfl,a9,hr⟩
  go_wp2_with fail
  simp only [Exit.jump]
  go_ret2
  exact ⟨HC.out.tr a9,(fun v b h=>by rw [hn.out] at h;cases h),fun _=>⟨rfl,hr⟩⟩
abbrev Rd:=List UInt8×Bool
def zT (s:Rd):Int×Rd:=match numS 59 s with
 | some (v,b)=>(v,(b,false))
 | none=>(0,([],true))
theorem intF_bound (s:Rd):I64 (zT s).1:=by
 unfold zT numS numP
 split
 ·rename_i v b h
  split at h
  ·cases h
  ·split at h
   ·cases h
   ·split at h
    ·rename_i o
     split at h
     ·injection h with h;injection h with h1 h2;subst h1;exact ⟨(Lib.atoiAll_bounds o).1,(Lib.atoiAll_bounds o).2⟩
     ·cases h
    ·cases h
 ·exact ⟨by decide,by decide⟩
theorem CL (s:Rd):(zT s).2.1.length<=s.1.length/\((zT s).2.2=false->(zT s).2.1.length<s.1.length):=by
 unfold zT numS numP
 split
 ·rename_i v b h
  split at h
  ·cases h
  ·split at h
   ·cases h
   ·rename_i o
    have:=(Dg o).2
    split at h
    ·split at h
     ·injection h with h;injection h with h1 h2;subst h2;rw [this];exact ⟨by simp;omega,fun _=>by simp;omega⟩
     ·cases h
    ·cases h
 ·exact ⟨by simp,fun h=>by cases h⟩
theorem intF_bad {s:Rd} (h:s.2=true):zT s=(0,([],true)):=by
 unfold zT numS;rw [if_pos h]
theorem rInt_calls {s:Rd} (w:World) (Q:zN w) (h:AZ w r s) (L:s.1.length<=281474976710656):Calls Tryz.prog 173 #[.pointer (some ⟨r,0,none⟩)] w fun e w'=>e=.returned (.int .i64 (zT s).1)/\zp (·=r) w w'/\AZ w' r (zT s).2:=by
 have E:=zh (number_calls 59 w Q h L);have D:Hid (∀o,o=numS 59 s->zT s=match o with | some (v,b)=>(v,(b,false)) | none=>(0,([],true))):=fun o U=>by rw [U];rfl
 generalize numS 59 s=o at E D;have D:=zh (D.out o rfl);generalize zT s=i at D;clear Q h L
 go_enter Tryz.func173,Tryz.ntmps173
 cases o with
 | none=>
  go_wp2_with fail
  refine E.out.mono ?_;rintro e w1 ⟨G,-,M⟩;obtain ⟨rfl,I⟩:=M rfl;have K:=zh I;have J:=zh G;clear G M I E
  go_wp2_with fail
  go_ret;have e:=D.out;subst e;exact ⟨rfl,J.out,K.out⟩
 | some p=>
  obtain ⟨v,b⟩:=p
  go_wp2_with fail
  refine E.out.mono ?_;rintro e w1 ⟨G,O,-⟩;obtain ⟨rfl,I⟩:=O v b rfl;have K:=zh I;have J:=zh G;clear G O I E
  go_wp2_with fail
  go_ret;have e:=D.out;subst e;exact ⟨rfl,J.out,K.out⟩
def Ca:Nat->Rd->List Int->List Int×Rd
 | 0,s,l=>(l,s)
 | f+1,s,l=>if AC s=0\/s.1.head?=some 93 then (l,s) else Ca f (zT s).2 (l++[(zT s).1])
def intsE (p:List Int×Rd):List Int×Rd:=if AC p.2=0 then ([],([],true)) else (p.1,(p.2.1.tail,false))
def Am (s:Rd):List Int×Rd:=if AC s=0\/s.1.head?≠some 91 then ([],([],true)) else intsE (Ca s.1.tail.length (s.1.tail,false) [])
theorem intF_nil (s:Rd) (h:(zT s).2.2=true):(zT s).2.1=[]:=by
 unfold zT at h⊢
 cases o:numS 59 s with
 | none=>rfl
 | some p=>rw [o] at h;cases h
theorem intF_dec {s:Rd} {n:Nat} (h:s.1.length<=n+1):(zT s).2.1.length<=n:=by
 cases o:(zT s).2.2 with
 | false=>have:=(CL s).2 o;omega
 | true=>rw [intF_nil s o];simp
def rdSize (r:Nat) (w:World):Nat:=match w.cell? ⟨r,0,none⟩ with
 | some (.string s)=>s.size
 | _=>0
theorem rdSize_of {s:Rd} (h:AZ w r s):rdSize r w=s.1.length:=by
 unfold rdSize;rw [h.cell (k:=0) rfl];simp [ByteArray.size]
theorem head_get (h:0<l.length):∃x l',l=x :: l'/\(ByteArray.mk l.toArray)[0]'h=x:=by
 cases l with
 | nil=>simp at h
 | cons x l'=>exact ⟨x,l',rfl,rfl⟩
theorem own_chgR {e t:TypeId} {sz n:Nat} {xs:List Value} (h:w.ownsRow B e sz v n xs) (G:zd w r t cs) (o:e≠t) (E:zp (·=r) w w'):w'.ownsRow B e sz v n xs:=
 zv h fun g D=>E.block g (World.ownsRow.lt h g D).2 (fun e=>by subst e;exact zl h G o D)
theorem chg_below {a b c:World} (h:zp X a b) (o:Below B b c) (G:a.heap.size<=B:=by exact DR _):zp X a c:=
 ⟨o.os.trans h.os,o.tape.trans h.tape,o.output.trans h.output,DT h.size o.size,fun k D E=>(o.block k (by omega)).trans (h.block k D E)⟩
theorem elsF_fuel:∀(f f':Nat) (s:Rd) (l:List Int),s.1.length<=f->s.1.length<=f'->Ca f s l=Ca f' s l
 | 0,0,s,l,_,_=>rfl
 | 0,f'+1,s,l,h,_=>by
  have:s.1=[]:=Ei (by omega);unfold Ca;rw [if_pos (.inl (by unfold AC;rw [this];split <;> rfl))]
 | f+1,0,s,l,_,h=>by
  have:s.1=[]:=Ei (by omega);unfold Ca;rw [if_pos (.inl (by unfold AC;rw [this];split <;> rfl))]
 | f+1,f'+1,s,l,h,o=>by
  unfold Ca
  split
  ·rfl
  ·rename_i D
   exact elsF_fuel f f' _ _ (intF_dec h) (intF_dec o)
theorem elsF_step {s:Rd} {l:List Int} (h0:AC s≠0) (h1:s.1.head?≠some 93):Ca s.1.length s l=Ca (zT s).2.1.length (zT s).2 (l++[(zT s).1]):=by
 have o:0<s.1.length:=by
  unfold AC at h0
  split at h0
  ·exact absurd rfl h0
  ·omega
 obtain ⟨f,hf⟩:∃f,s.1.length=f+1:=⟨s.1.length - 1,by omega⟩;rw [hf,Ca,if_neg (fun h=>h.elim h0 h1)];exact elsF_fuel _ _ _ _ (intF_dec (by omega)) (DR _)
theorem elsF_stop {s:Rd} {l:List Int} (h:AC s=0\/s.1.head?=some 93):Ca s.1.length s l=(l,s):=by
 cases hf:s.1.length with
 | zero=>rfl
 | succ f=>unfold Ca;rw [if_pos h]
theorem elements_calls {s:Rd} (w:World) (hv:zN w) (h:AZ w r s) (hl:s.1.length<=1000000000000):Calls Tryz.prog 219 #[.pointer (some ⟨r,0,none⟩),.func (.func 173) #[.pointer (some ⟨r,0,none⟩)] #[]] w fun e w'=>∃v,e=.returned v/\zp (·=r) w w'/\AZ w' r (Am s).2/\zB w' w.heap.size v (Am s).1:=by
 have HL:=zh (DI w h);have HF:=zh (DH w h);obtain ⟨l,bad⟩:=s;have c0:=h.cell (k:=0) rfl;have hf:∀k,w.frozen? ⟨r,k,none⟩=false:=fun k=>h.frozen k
 have HR:=zh h;have HV:=zh hv;dsimp only at HL HR c0 hl;clear h hv
 go_enter Tryz.func219,Tryz.ntmps219
 go_wp2_with fail
 refine HL.out.mono ?_;rintro e w1 ⟨rfl,rfl⟩;by_cases D:AC (l,bad)=0
 ·have hI:Hid (Am (l,bad)=([],([],true))):=by (show _=_);unfold Am;rw [if_pos (.inl D)]
  have d6:(AC (l,bad):Int)=0:=by omega
  have d7:((AC (l,bad):Int)==0)=true:=by simp [D]
  go_wp2_with fail
  refine HF.out.mono ?_;rintro e w2 ⟨rfl,hC,hr⟩;have HC:=zh hC;have a1:=zh hr;clear hC hr
  go_wp2_with fail
  go_ret;refine ⟨_,rfl,HC.out,?_,?_⟩
  ·rw [hI.out];exact a1.out
  ·rw [hI.out];exact World.ownsRow_nil _ _ _ _
 ·have d6:((AC (l,bad):Int)==0)=false:=by simp [D]
  have a2:bad=false:=by cases bad with | false=>rfl | true=>exact absurd rfl D
  subst a2;have a3:0<l.length:=by unfold AC at D;simp at D;exact List.length_pos_iff.2 D
  have b4:(0:Int)<(l.length:Int):=by omega
  obtain ⟨x,l',K,hx⟩:=head_get a3;by_cases J:x=91
  ·have hq:((((ByteArray.mk l.toArray)[0]'a3).toNat:Int) != 91)=false:=by rw [hx,J];rfl
   have d5:ByteArray.extract ⟨l.toArray⟩ 1 l.length=⟨l'.toArray⟩:=by rw [ext_drop,K];rfl
   have HI:Hid (Am (l,false)=intsE (Ca l'.length (l',false) [])):=by
    (show _=_)
    unfold Am;rw [if_neg (by rw [K,J];simp [AC]),K,J];rfl
   have f7:l'.length<=1000000000000:=by rw [K] at hl;simp at hl;omega
   have HS:Hid (zp (·=r) w (w.setCell ⟨r,0,none⟩ (.string ⟨l'.toArray⟩))/\AZ (w.setCell ⟨r,0,none⟩ (.string ⟨l'.toArray⟩)) r (l',false)):=⟨De (X:=(·=r)) (zp.refl _ _) r 0 _ rfl,zd.set (k:=0) HR.out _⟩;clear K hx J D
   go_wp2_with fail
   go_loopw [5] (fun v wr=>∃s' acc,Hid (Ca l'.length (l',false) []=Ca s'.1.length s' acc)/\Hid (AZ wr r s')/\Hid (zB wr w.heap.size v acc)/\Hid (zp (·=r) w wr)/\s'.1.length+acc.length<=l'.length/\∃A c,v=.slice A acc.length c) (fun _ wr=>rdSize r wr)
   case atStart=>exact ⟨(l',false),[],rfl,HS.out.2,World.ownsRow_nil _ _ _ _,HS.out.1,by simp,none,0,rfl⟩
   have c7:=HR;clear HS hq d5 d6 HR HL HF c0 hf b4 hl
   case round=>
    obtain ⟨⟨l1,bad⟩,acc,Q,o,V,M,a6,A,c,rfl⟩:=hrel;have b3:=DI wr o.out;have c1:=o.out.cell (k:=0) rfl;have f4:∀k,wr.frozen? ⟨r,k,none⟩=false:=fun k=>o.out.frozen k
    have f6:l1.length+acc.length<=l'.length:=a6;dsimp only at b3 c1;have I:=zh b3;clear b3 a6;by_cases D:AC (l1,bad)=0
    ·have G:Hid (Ca l'.length (l',false) []=(acc,(l1,bad))):=Q.out.trans (elsF_stop (.inl D));have d7:((AC (l1,bad):Int)==0)=true:=by simp [D]
     have e9:¬ ((0:Int)<(AC (l1,bad):Int)):=by omega
     have e8:decide (0<AC (l1,bad))=false:=DV (by omega)
     go_wp2_with fail
     refine I.out.mono ?_;rintro e w2 ⟨rfl,rfl⟩
     go_wp2_with fail
     have b6:=zh (DH wr o.out);refine I.out.mono ?_;rintro e w3 ⟨rfl,rfl⟩;have HN:Hid (Am (l,false)=([],([],true))):=by (show _=_);rw [HI.out,G.out];unfold intsE;rw [if_pos D]
     clear I Q G HI V
     go_wp2_with fail
     refine b6.out.mono ?_;rintro e w4 ⟨rfl,hC,hr⟩;have HC:=zh (M.out.tr hC);have a1:=zh hr;clear hC hr b6
     go_wp2_with fail
     go_ret;refine ⟨_,rfl,HC.out,?_,?_⟩
     ·rw [HN.out];exact a1.out
     ·rw [HN.out];exact World.ownsRow_nil _ _ _ _
    ·have a2:bad=false:=by cases bad with | false=>rfl | true=>exact absurd rfl D
     subst a2;have L:0<l1.length:=by unfold AC at D;simp at D;exact List.length_pos_iff.2 D
     obtain ⟨x,l2,E,hx⟩:=head_get L;have d7:((AC (l1,false):Int)==0)=false:=by simp [D]
     have e9:(0:Int)<(AC (l1,false):Int):=by omega
     have e8:decide (0<AC (l1,false))=true:=DU (by omega);by_cases U:x=93
     ·have hq:((((ByteArray.mk l1.toArray)[0]'L).toNat:Int) != 93)=false:=by rw [hx,U];rfl
      have d5:ByteArray.extract ⟨l1.toArray⟩ 1 l1.length=⟨l2.toArray⟩:=by rw [ext_drop,E];rfl
      have HN:Hid (Am (l,false)=(acc,(l2,false))):=by
       (show _=_)
       rw [HI.out,Q.out,elsF_stop (.inr (by rw [E,U];rfl))];unfold intsE;rw [if_neg D,E];rfl
      have O:Hid (zp (·=r) w (wr.setCell ⟨r,0,none⟩ (.string ⟨l2.toArray⟩))/\AZ (wr.setCell ⟨r,0,none⟩ (.string ⟨l2.toArray⟩)) r (l2,false)):=⟨De (X:=(·=r)) M.out r 0 _ rfl,zd.set (k:=0) o.out _⟩;have a0:Hid (zB (wr.setCell ⟨r,0,none⟩ (.string ⟨l2.toArray⟩)) w.heap.size (.slice A acc.length c) acc):=own_chgR V.out o.out (by decide) (De (X:=(·=r)) (zp.refl _ _) r 0 _ rfl);clear HI Q E hx U D V M o
      go_wp2_with fail
      refine I.out.mono ?_;rintro e w2 ⟨rfl,rfl⟩
      go_wp2_with fail
      refine I.out.mono ?_;rintro e w2 ⟨rfl,rfl⟩;clear I
      go_wp2_with fail
      go_ret;refine ⟨_,rfl,O.out.1,?_,?_⟩
      ·rw [HN.out];exact O.out.2
      ·rw [HN.out];exact a0.out
     ·have hq:((((ByteArray.mk l1.toArray)[0]'L).toNat:Int) != 93)=true:=by
       rw [hx,bne_iff_ne];intro h;exact U (UInt8.toNat_inj.1 (by simpa using Int.ofNat.inj h))
      have G:Hid (Ca l'.length (l',false) []=Ca (zT (l1,false)).2.1.length (zT (l1,false)).2 (acc++[(zT (l1,false)).1])):=Q.out.trans (elsF_step D (by rw [E];simpa using U));have c9:(zT (l1,false)).2.1.length+1<=l1.length:=by have:=intF_dec (s:=(l1,false)) (n:=l1.length - 1) (by show l1.length<=_;omega);omega
      have a9:=zh (rInt_calls wr (BU HV.out M.out (var_ne HV.out c7.out)) o.out (by show l1.length<=_;omega));obtain ⟨y,hy⟩:=EY (zT (l1,false));rw [<-hy] at G a9 c9;have e6:Hid (rdSize r wr=l1.length):=rdSize_of o.out;have f1:acc.length<=1000000000000:=by omega
      clear HI Q E hx U D hy
      go_wp2_with fail
      refine I.out.mono ?_;rintro e w2 ⟨rfl,rfl⟩;clear I
      go_wp2_with fail
      refine a9.out.mono ?_;rintro e w3 ⟨rfl,b1,c8⟩;have a0:Hid (zB w3 w.heap.size (.slice A acc.length c) acc):=own_chgR V.out o.out (by decide) b1;have O:=zh (M.out.tr b1);have b9:=zh c8;clear b1 c8 a9 V M o;have a8:w.heap.size<=w3.heap.size:=O.out.size
      go_wp2_with (at_builtin;refine AF rfl _ _ rfl _ acc y.1 w.heap.size w3.heap.size 1 _ rfl rfl (a0.out.alloc _) ?d1 ?d2 ?d3 ?_)
      (try case d1=>exact zC _ _ _ (by simp))
      case d2=>(first | (simp;done) | (simp;omega) | omega)
      case d3=>omega
      intro v' w4 b2 d4 e7;have b0:Below w.heap.size w3 w4:=((Below.refl _ w3).alloc a8 _).grown d4.out (by simp;omega) (fun k hk=>(a0.out.lt k hk).1);have e1:Hid (zp (·=r) w w4):=chg_below O.out b0;have c6:Hid (AZ w4 r y.2):=zd.below b9.out b0 (zc c7.out);obtain ⟨A4,c4,rfl,-⟩:=AA b2;have e4:=zh b2;clear b2 d4 e7 b0 O b9 a0 a8;go_wp2;go_roundw
      case rel=>exact ⟨y.2,acc++[y.1],G,c6,e4,e1,by simp;omega,A4,c4,by simp⟩
      case measure=>rw [rdSize_of c6.out,e6.out];omega
  ·have hq:((((ByteArray.mk l.toArray)[0]'a3).toNat:Int) != 91)=true:=by
    rw [hx,bne_iff_ne];intro h;exact J (UInt8.toNat_inj.1 (by simpa using Int.ofNat.inj h))
   have hI:Hid (Am (l,false)=([],([],true))):=by (show _=_);unfold Am;rw [if_pos (.inr (by rw [K];simpa using J))]
   clear K hx J D
   go_wp2_with fail
   refine HF.out.mono ?_;rintro e w2 ⟨rfl,hC,hr⟩;have HC:=zh hC;have a1:=zh hr;clear hC hr
   go_wp2_with fail
   go_ret;refine ⟨_,rfl,HC.out,?_,?_⟩
   ·rw [hI.out];exact a1.out
   ·rw [hI.out];exact World.ownsRow_nil _ _ _ _
theorem rInts_calls {s:Rd} (w:World) (I:zN w) (h:AZ w r s) (K:s.1.length<=1000000000000):Calls Tryz.prog 174 #[.pointer (some ⟨r,0,none⟩)] w fun e w'=>∃v,e=.returned v/\zp (·=r) w w'/\AZ w' r (Am s).2/\zB w' w.heap.size v (Am s).1:=by
 have D:=zh (elements_calls w I h K);generalize Am s=i at D⊢;clear I h
 go_enter Tryz.func174,Tryz.ntmps174
 go_wp2_with fail
 refine D.out.mono ?_;rintro e w1 ⟨v,rfl,E,G,o⟩;obtain ⟨A,c,rfl,-⟩:=AA o;have J:=zh (And.intro E (And.intro G o));clear E G o
 go_wp2_with fail
 go_ret;exact ⟨_,rfl,J.out⟩
end
section
open Go.RowKit Go.Shelf
attribute [local go_sem ↓] Go.wp_at_zero Go.wp_at_succ
attribute [local go_sem] Oper.semAt_some
mutual
def encP:PT->List UInt8
 | .node t s ks=>(wI t++wL s)++wI (ks.length:Nat)++Bw ks
def Bw:List PT->List UInt8
 | []=>[]
 | k :: ks=>encP k++Bw ks
end
mutual
def PT.Ok:PT->Prop
 | .node t s ks=>I64 t/\(∀x∈s,I64 x)/\s.length<=1000000000000/\ks.length<=1000000000000/\PT.OkL ks
def PT.OkL:List PT->Prop
 | []=>True
 | k :: ks=>k.Ok/\PT.OkL ks
end
theorem okL_mem:∀{ks:List PT},PT.OkL ks->∀k∈ks,k.Ok
 | [],_,k,hk=>by cases hk
 | a :: ks,h,k,hk=>by
  unfold PT.OkL at h;rcases EG.1 hk with rfl | hk
  ·exact h.1
  ·exact okL_mem h.2 k hk
theorem encPs_take:∀{ks:List PT} {k:Nat} (o:k<ks.length),Bw (ks.take (k+1))=Bw (ks.take k)++encP ks[k]
 | a :: ks,0,_=>by simp [Bw]
 | a :: ks,k+1,o=>by
  have h:=encPs_take (ks:=ks) (k:=k) (by simpa using o);simp only [List.take_succ_cons,Bw,List.getElem_cons_succ,h,List.append_assoc]
theorem encPs_le:∀(ks:List PT) (k:Nat),(Bw (ks.take k)).length<=(Bw ks).length
 | [],k=>by simp
 | a :: ks,0=>by simp [Bw]
 | a :: ks,k+1=>by
  have h:=encPs_le ks k;simp only [List.take_succ_cons,Bw,DZ];omega
theorem encP_mem:∀{ks:List PT},∀k∈ks,(encP k).length<=(Bw ks).length/\k.size<=PT.sizeL ks
 | [],k,hk=>by cases hk
 | a :: ks,k,hk=>by
  simp only [Bw,PT.sizeL,DZ];rcases EG.1 hk with rfl | hk
  ·omega
  ·have:=encP_mem k hk;omega
theorem enc_calls:∀(N:Nat) {ok:Nat->Prop} {v:Value} {p:PT} (w:World),zN w->zM w ok v p->p.size<=N->p.Ok->(encP p).length<=9223372036854775000->
  Calls Tryz.prog 16 #[v] w fun e w'=>e=.returned (.string ⟨(encP p).toArray⟩)/\za w w'
 | 0,ok,v,.node t s ks,w,_,h,hN,_,_=>by unfold PT.size at hN;omega
 | N+1,ok,v,.node t s ks,w,hv,h,hN,hl,hL=>by
  have IH:Hid (∀(ok:Nat->Prop) (v:Value) (p:PT) (w:World),zN w->zM w ok v p->p.size<=N->p.Ok->(encP p).length<=9223372036854775000->Calls Tryz.prog 16 #[v] w fun e w'=>e=.returned (.string ⟨(encP p).toArray⟩)/\za w w'):=fun ok v p w=>enc_calls N w
  cases h with
  | mk hs hk he=>
   rename_i vs vk cs
   have HS:=zh hs;obtain ⟨As,cs',rfl,-,-⟩:=hs;obtain ⟨Ak,ck,rfl,f5,b6⟩:=hk;have c8:=zh b6;have c0:=zh he;have HV:=zh hv;unfold PT.Ok at hl;obtain ⟨b0,b1,b2,f6,b3⟩:=hl;have c7:=zh (okL_mem b3);have c9:Hid (∀k∈ks,(encP k).length<=(Bw ks).length/\k.size<=PT.sizeL ks):=encP_mem;unfold PT.size at hN;unfold encP at hL⊢;obtain ⟨x1,U⟩:∃x,x=wI t:=⟨_,rfl⟩;obtain ⟨x2,V⟩:∃x,x=wL s:=⟨_,rfl⟩;obtain ⟨x3,a0⟩:∃x,x=wI (ks.length:Nat):=⟨_,rfl⟩;rw [<-U,<-V,<-a0] at hL⊢;have H1:Hid (∀W,za w W->Calls Tryz.prog 51 #[.int .i64 t] W fun e w'=>e=.returned (.string ⟨x1.toArray⟩)/\za W w'):=fun W hW=>by rw [U];exact wInt_calls W (HV.out.ext hW) b0
   have H2:Hid (∀W,za w W->Calls Tryz.prog 52 #[.slice As s.length cs'] W fun e w'=>e=.returned (.string ⟨x2.toArray⟩)/\za W w'):=fun W hW=>by rw [V];exact wireInts_calls W (HV.out.ext hW) (HS.out.below hW) b1 b2
   have H3:Hid (∀W,za w W->Calls Tryz.prog 51 #[.int .i64 (ks.length:Nat)] W fun e w'=>e=.returned (.string ⟨x3.toArray⟩)/\za W w'):=fun W hW=>by rw [a0];exact wInt_calls W (HV.out.ext hW) ⟨by omega,by omega⟩
   obtain ⟨xs,G⟩:=EY (x1++(x2++x3));rw [List.append_assoc x1 x2 x3,<-G] at hL⊢;have e4:xs.length=x1.length+(x2.length+x3.length):=by rw [G];simp
   simp only [DZ] at hL;have a1:∀w,(Op.stringOp .add ⟨x1.toArray⟩ ⟨x2.toArray⟩).run Tryz.prog w=.ok (.string ⟨(x1++x2).toArray⟩) w:=fun w=>add_str (by omega)
   have a2:∀w,(Op.stringOp .add ⟨(x1++x2).toArray⟩ ⟨x3.toArray⟩).run Tryz.prog w=.ok (.string ⟨xs.toArray⟩) w:=fun w=>by rw [G,<-List.append_assoc];exact add_str (by simp;omega)
   have HL:Hid (xs.length+(Bw ks).length<=9223372036854775000):=hL;clear b6 he b3 hv U V a0 b0 b1 b2 hL G e4
   go_enter Tryz.func16,Tryz.ntmps16
   go_upto_region 1 with fail;obtain ⟨J,p0,p1,p2⟩:=box3 w (.int .i64 t) (.slice As s.length cs') (.slice Ak ks.length ck);generalize w.alloc _=w1 at J p0 p1 p2⊢;obtain ⟨gp,a9⟩:=EY w.heap.size;rw [<-a9] at p0 p1 p2⊢;have o:=zh J;have Q:za w1 w1:=za.refl w1;clear J a9;refine Eh (S:=(fun W=>za w1 W)) zI (Q.drew) fun zH=>?_;have a8:za w1 w1.drew:=zH;generalize w1.drew=wd at zH a8⊢;refine zg 0 zH ?_;refine zg 1 zH ?_;simp only [zb,DN];refine zg 3 zH ?_;refine zg 4 zH ?_;simp only [zb,DN];refine zg 7 zH ?_;refine zg 8 zH ?_;simp only [zb,DN];refine zg 9 zH ?_;simp only [zb,DN];refine AD 2 fun K I=>?_;go_simp;go_at_call 51;refine (H1.out _ (o.out.trans zH)).mono ?_;rintro e w2 ⟨rfl,d6⟩;go_simp;refine EZ I (zH.trans d6) fun zH=>?_;clear I K;try simp only [zb,DN]
   refine AD 5 fun K I=>?_;go_simp;go_at_call 52;refine (H2.out _ (o.out.trans zH)).mono ?_;rintro e w3 ⟨rfl,d7⟩;go_simp;refine EZ I (zH.trans d7) fun zH=>?_;clear I K;try simp only [zb,DN]
   refine zg 6 zH ?_;simp only [zb,DN];refine AD 10 fun K I=>?_;go_simp;go_at_call 51;refine (H3.out _ (o.out.trans zH)).mono ?_;rintro e w4 ⟨rfl,d8⟩;go_simp;refine EZ I (zH.trans d8) fun zH=>?_;clear I K;try simp only [zb,DN]
   refine zg 11 zH ?_;refine zg 12 zH ?_;simp only [zb,DN];refine Ev (by kernel_rfl) ?_ _;have a6:=zh zH;clear a1 a2 H1 H2 H3
   go_wp2_with fail
   clear zH a8 Q;go_loopw [3,21] (fun n i wr=>∃k:Nat,k<=ks.length/\i=.int .i64 k/\n=.string ⟨(xs++Bw (ks.take k)).toArray⟩/\Hid (za w1 wr)) (fun _ i _=>ks.length - (intOf i).toNat)
   case atStart=>exact ⟨0,Ef _,rfl,by simp [Bw],a6.out⟩
   clear a6
   case round=>
    obtain ⟨k,hk,rfl,rfl,hE⟩:=hrel;obtain ⟨wk,rfl⟩:∃wk:World,wk=wr:=⟨_,rfl⟩;have Q:za w1 wk:=hE.out;by_cases D:k<ks.length
    ·have f1:(k:Int)<(ks.length:Int):=by omega
     have kk0:(0:Int)<=(k:Int):=by omega
     obtain ⟨b,off,rfl,h0,h1,h2⟩:=kidsAt c8.out D;have q0:=za.rule (o.out.cell h0);have q1:=za.rule (o.out.cell h1);have q2:=za.rule (o.out.cell h2);have E:=c0.out k D;obtain ⟨A1,c1,A2,c2,e,-⟩:=E.form;obtain ⟨v0,L⟩:∃v,v=cs.getD (k*3) undef:=⟨_,rfl⟩;obtain ⟨v1,M⟩:∃v,v=cs.getD (k*3+1) undef:=⟨_,rfl⟩;obtain ⟨v2,O⟩:∃v,v=cs.getD (k*3+2) undef:=⟨_,rfl⟩;rw [<-L,<-M,<-O] at E e;rw [<-L] at q0;rw [<-M] at q1;rw [<-O] at q2;injection e with e;have e0:=congrArg (fun a:Array Value=>a[0]?) e;have e1:=congrArg (fun a:Array Value=>a[1]?) e;have e2:=congrArg (fun a:Array Value=>a[2]?) e;simp at e0 e1 e2;subst e0 e1 e2;have b5:=c9.out _ (DS D);have HK:Hid (∀W,za w W->Calls Tryz.prog 16 #[_] W fun e w'=>e=.returned (.string ⟨(encP ks[k]).toArray⟩)/\za W w'):=fun W hW=>IH.out _ _ _ W (HV.out.ext hW) (E.ext hW) (by omega) (c7.out _ (DS D)) (by have:=HL.out;omega)
     have HT:Hid (xs++Bw (ks.take (k+1))=(xs++Bw (ks.take k))++encP ks[k]):=by (show _=_);rw [encPs_take D,List.append_assoc]
     have b4:=encPs_le ks (k+1);rw [encPs_take D,DZ] at b4;have d9:=HL.out;obtain ⟨y1,a3⟩:∃y,y=xs++Bw (ks.take k):=⟨_,rfl⟩;obtain ⟨y2,a4⟩:∃y,y=encP ks[k]:=⟨_,rfl⟩;have ha:∀w,(Op.stringOp .add ⟨y1.toArray⟩ ⟨y2.toArray⟩).run Tryz.prog w=.ok (.string ⟨(y1++y2).toArray⟩) w:=fun w=>add_str (by rw [a3,a4,DZ];omega)
     rw [<-a3] at HT⊢;rw [<-a4] at HT HK;have d4:Hid (za w wk):=o.out.trans Q;clear a3 a4 d9 b4 b5 E e L M O h0 h1 h2
     go_wp2_with fail
     refine (HK.out _ (d4.out.alloc _)).mono ?_;rintro e w5 ⟨rfl,a7⟩;have b8:Hid (za w1 w5):=(Q.alloc _).trans a7;clear a7 Q HK q0 q1 q2
     go_wp2_with fail
     go_roundw
     case rel=>exact ⟨k+1,by omega,by go_num,by rw [HT.out],b8⟩
     case measure=>simp [intOf];omega
    ·obtain rfl:k=ks.length:=by omega
     have b9:Hid (za w wk):=o.out.trans hE.out;have HT:Hid (xs++Bw (ks.take ks.length)=xs++Bw ks):=by (show _=_);rw [Ec]
     rw [HT.out];clear HT hE Q
     go_wp2_with fail
     go_ret;exact ⟨rfl,b9.out⟩
end
section
open Go.RowKit
attribute [local go_sem ↓] Go.wp_at_zero Go.wp_at_succ
attribute [local go_sem] Oper.semAt_some
mutual
def Ck:PT->PT->Bool
 | .node t s ks,.node t' s' ks'=>decide (t=t') && (decide (s=s') && (decide (ks.length=ks'.length) && sameL ks ks'))
def sameL:List PT->List PT->Bool
 | [],_=>true
 | _ :: _,[]=>true
 | k :: ks,k' :: ks'=>Ck k k' && sameL ks ks'
end
theorem sameL_no:∀{ks ks':List PT} {k:Nat} (h:k<ks.length) (o:k<ks'.length),Ck ks[k] ks'[k]=false->sameL ks ks'=false
 | a :: ks,b :: ks',0,_,_,e=>by
  have e':Ck a b=false:=e;unfold sameL;rw [e'];rfl
 | a :: ks,b :: ks',k+1,h,o,e=>by
  have:=sameL_no (ks:=ks) (ks':=ks') (k:=k) (by simpa using h) (by simpa using o) (by simpa using e);unfold sameL;rw [this,Bool.and_false]
theorem sameL_yes:∀{ks ks':List PT},(∀j (h:j<ks.length) (o:j<ks'.length),Ck ks[j] ks'[j]=true)->sameL ks ks'=true
 | [],_,_=>by unfold sameL;rfl
 | _ :: _,[],_=>by unfold sameL;rfl
 | a :: ks,b :: ks',h=>by
  unfold sameL;have h0:Ck a b=true:=h 0 (by simp) (by simp);rw [h0,sameL_yes (ks:=ks) (ks':=ks') fun j h1 h2=>h (j+1) (by simpa using h1) (by simpa using h2)];rfl
mutual
theorem Do:∀(p:PT),Ck p p=true
 | .node t s ks=>by unfold Ck;simp [sameL_refl ks]
theorem sameL_refl:∀(ks:List PT),sameL ks ks=true
 | []=>by unfold sameL;rfl
 | k :: ks=>by unfold sameL;rw [Do k,sameL_refl ks];rfl
end
theorem CS:∀(N:Nat) {ok ok':Nat->Prop} {v v':Value} {p p':PT} (w:World),zM w ok v p->zM w ok' v' p'->p.size<=N->p.Lens->p'.Lens->
  Calls Tryz.prog 57 #[v,v'] w fun e w'=>e=.returned (.bool (Ck p p'))/\za w w'
 | 0,ok,ok',v,v',.node t s ks,p',w,h,_,hN,_,_=>by unfold PT.size at hN;omega
 | N+1,ok,ok',v,v',.node t s ks,.node t' s' ks',w,h,Q,hN,hl,c8=>by
  have IH:Hid (∀(ok ok':Nat->Prop) (v v':Value) (p p':PT) (w:World),zM w ok v p->zM w ok' v' p'->p.size<=N->p.Lens->p'.Lens->Calls Tryz.prog 57 #[v,v'] w fun e w'=>e=.returned (.bool (Ck p p'))/\za w w'):=fun ok ok' v v' p p' w=>CS N w
  cases h with
  | mk hs hk he=>
  rename_i vs vk cs
  cases Q with
  | mk d7 e8 c0=>
  rename_i vs' vk' cs'
  have HS:=zh hs;have e4:=zh d7;obtain ⟨As,c1,rfl,-,-⟩:=hs;obtain ⟨As',c1',rfl,-,-⟩:=d7;obtain ⟨Ak,ck,rfl,g1,d6⟩:=hk;obtain ⟨Ak',ck',rfl,f4,a3⟩:=e8;have e3:=zh d6;have e0:=zh he;have b3:=zh a3;have b0:=zh c0;unfold PT.Lens at hl c8;obtain ⟨e9,g4,d4⟩:=hl;obtain ⟨c9,f7,a2⟩:=c8;have e2:=zh (CA d4);have b2:=zh (CA a2);have e5:Hid (∀k∈ks,k.size<=PT.sizeL ks):=size_mem;have b9:=fun (w:World) (W:World) (hW:za w W) (h:zk w ok (.slice As s.length c1) s) (Q:zk w ok' (.slice As' s'.length c1') s')=>same_calls W (h.below hW) (Q.below hW) e9 c9
  have D:Hid (∀W,za w W->Calls Tryz.prog 15 #[.slice As s.length c1,.slice As' s'.length c1'] W fun e w'=>e=.returned (.bool (decide (s=s')))/\zZ W w'):=fun W hW=>b9 w W hW HS.out e4.out
  unfold PT.size at hN;obtain ⟨R,hR⟩:=EY (Ck (.node t s ks) (.node t' s' ks'));rw [<-hR];unfold Ck at hR;have HR:=zh hR;clear d6 he d4 a3 c0 a2 b9 hR
  go_enter Tryz.func57,Tryz.ntmps57
  go_upto_region 1 with fail;obtain ⟨a8,p0,p1,p2⟩:=box3 w (.int .i64 t) (.slice As s.length c1) (.slice Ak ks.length ck);have a9:(w.alloc (.cells #[.int .i64 t,.slice As s.length c1,.slice Ak ks.length ck] 41)).heap.size=w.heap.size+1:=by simp
  generalize w.alloc _=w1 at a8 p0 p1 p2 a9⊢;obtain ⟨U,q0,q1,q2⟩:=box3 w1 (.int .i64 t') (.slice As' s'.length c1') (.slice Ak' ks'.length ck');generalize w1.alloc _=w2 at U q0 q1 q2⊢;rw [a9] at q0 q1 q2;obtain ⟨gp,c6⟩:=EY w.heap.size;rw [<-c6] at p0 p1 p2 q0 q1 q2⊢;have a5:=zh U;have p0:=fun W h=>p0 W (a5.out.trans h)
  have p1:=fun W h=>p1 W (a5.out.trans h)
  have p2:=fun W h=>p2 W (a5.out.trans h)
  have o:=zh (a8.trans U);have J:za w2 w2:=za.refl w2;clear a8 U c6 a9;by_cases ht:t=t'
  ·have d8:(t != t')=false:=by simp [ht]
   by_cases I:s=s'
   ·have G:decide (s=s')=true:=DU I;by_cases E:ks.length=ks'.length
    ·have c7:((ks.length:Int) != (ks'.length:Int))=false:=by simp [E]
     have a1:(ks.length != ks'.length)=false:=by simp [E]
     rw [G] at D;have b4:Hid (R=sameL ks ks'):=by (show _=_);rw [HR.out,DU ht,DU I,DU E];rfl
     clear ht I G HR
     go_wp2_with fail
     refine (D.out w2 o.out).mono ?_;rintro e w3 ⟨rfl,hD⟩;obtain ⟨nd,rfl⟩:=hD;have J:za w2 (w2.drewN nd):=(za.refl w2).drewN nd;generalize w2.drewN nd=w3 at J⊢
     go_wp2_with fail
     clear c7 a1 d8 D;go_loopw [5] (fun i wr=>∃k:Nat,k<=ks.length/\i=.int .i64 k/\Hid (∀j,j<k->∀(h:j<ks.length) (Q:j<ks'.length),Ck ks[j] ks'[j]=true)/\Hid (za w2 wr)) (fun i _=>ks.length - (intOf i).toNat)
     case atStart=>exact ⟨0,Ef _,rfl,(fun j hj=>by omega),J⟩
     have e1:=zh E;clear J E
     case round=>
      obtain ⟨k,hk,rfl,V,hE⟩:=hrel;obtain ⟨wk,rfl⟩:∃wk:World,wk=wr:=⟨_,rfl⟩;have J:za w2 wk:=hE.out;by_cases M:k<ks.length
      ·have d5:(k:Int)<(ks.length:Int):=by omega
       have L:k<ks'.length:=by have:=e1.out;omega
       have f0:(k:Int)<(ks'.length:Int):=by omega
       have kk0:(0:Int)<=(k:Int):=by omega
       obtain ⟨b,off,rfl,h0,h1,h2⟩:=kidsAt e3.out M;obtain ⟨b',off',rfl,b5,b6,b7⟩:=kidsAt b3.out L;have r0:=za.rule (o.out.cell h0);have r1:=za.rule (o.out.cell h1);have r2:=za.rule (o.out.cell h2);have s0:=za.rule (o.out.cell b5);have s1:=za.rule (o.out.cell b6);have s2:=za.rule (o.out.cell b7);have b1:Hid (∀W,za w2 W->Calls Tryz.prog 57 #[_,_] W fun e w'=>e=.returned (.bool (Ck ks[k] ks'[k]))/\za W w'):=fun W hW=>IH.out _ _ _ _ _ _ W ((e0.out k M).ext (o.out.trans hW)) ((b0.out k L).ext (o.out.trans hW)) (by have:=e5.out _ (DS M);omega) (e2.out _ (DS M)) (b2.out _ (DS L))
       obtain ⟨z,hz⟩:=EY (Ck ks[k] ks'[k]);rw [<-hz] at b1;have HZ:=zh hz;clear h0 h1 h2 b5 b6 b7 hz;go_upto_region 6 with fail;refine Eh (S:=(fun W=>za w2 W)) zI (J.drew) fun zH=>?_;have a7:za w2 wk.drew:=zH;generalize wk.drew=wd at zH a7⊢;refine zg 0 zH ?_;refine zg 1 zH ?_;simp only [zb,DN];refine zg 2 zH ?_;refine zg 3 zH ?_;simp only [zb,DN];refine zg 4 zH ?_;refine zg 5 zH ?_;simp only [zb,DN];refine zg 6 zH ?_;refine zg 7 zH ?_;simp only [zb,DN];refine zg 8 zH ?_;refine zg 9 zH ?_;simp only [zb,DN];refine AD 10 fun K hK=>?_;go_simp;go_at_call 57;refine (b1.out _ zH).mono ?_;rintro e w9 ⟨rfl,e6⟩;go_simp;refine EZ hK (zH.trans e6) fun zH=>?_;clear hK K;try simp only [zb,DN]
       refine zg 11 zH ?_;simp only [zb,DN];refine Ev (by kernel_rfl) ?_ _
       cases z with
       | true=>
        have a4:Hid (∀j,j<k+1->∀(h:j<ks.length) (Q:j<ks'.length),Ck ks[j] ks'[j]=true):=fun j hj h Q=>by
         rcases En j k with h1 | h1
         ·exact V.out j h1 h Q
         ·have:j=k:=by omega
          subst this;exact HZ.out.symm
        have a6:=zh zH;clear zH J a7 r0 r1 r2 s0 s1 s2
        go_wp2_with fail
        go_roundw
        case rel=>exact ⟨k+1,by omega,by go_num,a4,a6⟩
        case measure=>simp [intOf];omega
       | false=>
        have O:Hid (R=false):=by (show _=_);rw [b4.out];exact sameL_no M L HZ.out.symm
        have a6:=zh (o.out.trans zH);clear zH J a7 r0 r1 r2 s0 s1 s2
        go_wp2_with fail
        go_ret;exact ⟨zi O.out.symm,a6.out⟩
      ·have O:Hid (R=true):=by (show _=_);rw [b4.out];exact sameL_yes fun j h Q=>V.out j (by omega) h Q
       have d5:¬ ((k:Int)<(ks.length:Int)):=by omega
       go_wp2_with fail
       go_ret;exact ⟨zi O.out.symm,o.out.trans J⟩
    ·have c7:((ks.length:Int) != (ks'.length:Int))=true:=by rw [bne_iff_ne];omega
     have a1:(ks.length != ks'.length)=true:=by rw [bne_iff_ne];exact E
     rw [G] at D;have O:Hid (R=false):=by (show _=_);rw [HR.out,DV E];simp
     clear ht I G HR
     go_wp2_with fail
     refine (D.out w2 o.out).mono ?_;rintro e w3 ⟨rfl,hD⟩;obtain ⟨nd,rfl⟩:=hD;have J:za w2 (w2.drewN nd):=(za.refl w2).drewN nd;generalize w2.drewN nd=w3 at J⊢
     go_wp2_with fail
     go_ret;exact ⟨zi O.out.symm,o.out.trans J⟩
   ·have G:decide (s=s')=false:=DV I;rw [G] at D;have O:Hid (R=false):=by (show _=_);rw [HR.out,DV I];simp
    clear ht I G HR
    go_wp2_with fail
    refine (D.out w2 o.out).mono ?_;rintro e w3 ⟨rfl,hD⟩;obtain ⟨nd,rfl⟩:=hD;have J:za w2 (w2.drewN nd):=(za.refl w2).drewN nd;generalize w2.drewN nd=w3 at J⊢
    go_wp2_with fail
    go_ret;exact ⟨zi O.out.symm,o.out.trans J⟩
  ·have d8:(t != t')=true:=by simp [ht]
   have O:Hid (R=false):=by (show _=_);rw [HR.out,DV ht];rfl
   clear ht HR
   go_wp2_with fail
   go_ret;exact ⟨zi O.out.symm,o.out⟩
end
end Go.Proofs.YtjomnbdjajjgfaaGreatDoor
