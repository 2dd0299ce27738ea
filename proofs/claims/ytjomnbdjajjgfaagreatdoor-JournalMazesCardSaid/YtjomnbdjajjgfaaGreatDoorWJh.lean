import Derived.Test.YtjomnbdjajjgfaaGreatDoorWJg
import Derived.Lib.Strings
import Derived.Lib.Walk
import Derived.Lib.BufferWrite
import Derived.Lib.UnsafeStr
import Derived.Lib.Hide
import Derived.Laws.MakeOwn
import Derived.Laws.IdiomStrings
import Derived.WalkKit
import Derived.ProofKit
import Derived.OpenShut
import Derived.ShutString
import Derived.WalkLawsBesides
import Derived.WalkSpells
import Derived.Deep.CutBlock
set_option linter.unusedVariables false
set_option linter.unusedSimpArgs false
set_option maxRecDepth 100000
set_option maxHeartbeats 16000000
namespace Go.Proofs.YtjomnbdjajjgfaaGreatDoor
variable {n:Int} {acc:List Int} {a l l0:List UInt8} {B k p q r:Nat} {s:Rd} {b c:UInt8} {w w':World}
section
open Go.RowKit
attribute [local go_sem ↓] Go.wp_at_zero Go.wp_at_succ
def dgSX (x:Nat) (c:UInt8):Nat:=(48271*x+c.toNat+1) % 2147483647
def dgSY (y:Nat) (c:UInt8):Nat:=(40692*y+c.toNat+1) % 2147483629
def dgRX (x:Nat) (l:List UInt8):Nat:=l.foldl dgSX x
def dgRY (y:Nat) (l:List UInt8):Nat:=l.foldl dgSY y
def four (n:Nat):List UInt8:=[UInt8.ofNat (n / 16777216),UInt8.ofNat (n / 65536),UInt8.ofNat (n / 256),UInt8.ofNat n]
def BB (l:List UInt8):List UInt8:=four (dgRX 20 l)++four (dgRY 26 l)
def lenb (l:List UInt8):List UInt8:=four l.length
def Dl (a b:List UInt8):List UInt8:=BB (1 :: (lenb a++(a++b)))
theorem dgSX_lt (x:Nat) (c:UInt8):dgSX x c<2147483647:=Nat.mod_lt _ (by decide)
theorem dgSY_lt (x:Nat) (c:UInt8):dgSY x c<2147483629:=Nat.mod_lt _ (by decide)
theorem dgRX_lt:∀(l:List UInt8) (x:Nat),x<2147483647->dgRX x l<2147483647
 | [],_,h=>h
 | c :: l,x,_=>dgRX_lt l (dgSX x c) (dgSX_lt x c)
theorem dgRY_lt:∀(l:List UInt8) (x:Nat),x<2147483629->dgRY x l<2147483629
 | [],_,h=>h
 | c :: l,x,_=>dgRY_lt l (dgSY x c) (dgSY_lt x c)
theorem EU (x:Nat) (a b:List UInt8):dgRX x (a++b)=dgRX (dgRX x a) b:=by simp [dgRX]
theorem EV (x:Nat) (a b:List UInt8):dgRY x (a++b)=dgRY (dgRY x a) b:=by simp [dgRY]
theorem Aw (l:List UInt8):(BB l).length=8:=rfl
theorem Tryz.infoU8:(Tryz.prog.info? 5).map (fun i=>(i.zero,i.size,i.bytes))=some (some (.int .u8 0),1,1):=by kernel_rfl
theorem lclone_calls (s:ByteArray) (w:World) (a5:s.size<=281474976710656):
  Calls Tryz.prog 237 #[.string s] w fun e w'=>e=.returned (.string s)/\Below w.heap.size w w':=by
 by_cases h0:s.size=0
 ·have hs:s=⟨#[]⟩:=by
   apply ByteArray.ext;exact Array.eq_empty_of_size_eq_zero h0
  subst hs
  go_enter Tryz.func237,Tryz.ntmps237
  go_wp2;go_ret;exact ⟨rfl,Below.refl _ _⟩
 ·obtain ⟨i0,hi,a3,D,a4⟩:=info_parts Tryz.infoU8;have o:(Tryz.prog.info? 5).map (·.size)=some 1:=by rw [hi];simp [D]
  have V:Tryz.prog.cellsOf 5=1:=by simp [Program.cellsOf,hi,D]
  obtain ⟨M,I⟩:=zaI (madeCells (Value.int .u8 0).cells (((s.size:Nat):Int).toNat*i0.size));have a6:M.size=s.size:=by rw [I,size_madeCells,D];simp
  have a8:∀W:World,(Instr.makeSlice 76 (.int .i64 (s.size:Int)) (.int .i64 (s.size:Int))).run Tryz.prog W=.ok (.slice (some ⟨W.heap.size,0,none⟩) s.size s.size) (W.alloc (.cells M 5)):=fun W=>by
   have h:=run_make (P:=Tryz.prog) W 76 5 i0 (.int .u8 0) Tryz.underlying76 hi a3 .i64 .i64 (s.size:Int) (s.size:Int) (by omega) (by omega) (by rw [a4];omega) (by omega);rw [<-I] at h;simpa using h
  clear I;have a0:=Lib.run_copy_row_string (P:=Tryz.prog) (w.alloc (.cells M 5)) 76 9 3 5 w.heap.size 0 s.size s.size s M 5 Tryz.underlying76 o (zax w _) (Fy _) (by omega);obtain ⟨Y,O⟩:=zaI ((M.toList.take 0++Lib.byteCells s.data.toList++M.toList.drop (0+s.size)).toArray);rw [<-O] at a0
  have E:Y.toList=Lib.byteCells s.data.toList:=by
   rw [O,List.toList_toArray,List.take_zero,List.nil_append,List.drop_of_length_le (by rw [Array.length_toList];omega),List.append_nil]
  have a7:Y.size=s.size:=by rw [<-Array.length_toList,E,Lib.byteCells_length,<-Lib.size_eq]
  have G:((w.alloc (.cells M 5)).setRow w.heap.size Y).heap[w.heap.size]?=some (.cells Y 5 (0,0)):=setRow_heap _ _ M _ 5 (0,0) (zax w _);have a2:s.data.toList≠[]:=fun e=>h0 (by rw [Lib.size_eq,e];rfl)
  have J:=Lib.run_unsafeString_row (P:=Tryz.prog) ((w.alloc (.cells M 5)).setRow w.heap.size Y) 208 3 9 5 Tryz.underlying208 V w.heap.size Y.size (by unfold World.shape?;rw [G]) s.data.toList a2 (by rw [<-Lib.size_eq];omega) (by rw [<-Lib.size_eq];omega)
   (fun j x hx=>Lib.cells_of_row G Y.size j _ (by rw [List.take_of_length_le (by rw [Array.length_toList];exact Fy _),E];simp [Lib.byteCells,hx]))
  rw [<-Lib.size_eq] at J;clear O
  go_enter Tryz.func237,Tryz.ntmps237
  go_wp2;go_ret;have Q:Below w.heap.size w (w.alloc (.cells M 5)):=(Below.refl _ w).alloc (Fy _) _;have U:Below w.heap.size (w.alloc (.cells M 5)) ((w.alloc (.cells M 5)).setRow w.heap.size Y):=⟨rfl,rfl,rfl,by simp,fun k hk=>setRow_other _ _ _ _ (by omega)⟩;exact ⟨rfl,Lib.below_freeze (Q.trans U) (p:=⟨w.heap.size,0,none⟩) (Fy _) _⟩
theorem sclone_calls (s:ByteArray) (w:World) (o:s.size<=281474976710656):
  Calls Tryz.prog 222 #[.string s] w fun e w'=>e=.returned (.string s)/\Below w.heap.size w w':=by
 go_enter Tryz.func222,Tryz.ntmps222
 go_wp2_with (go_at_call 237;refine (lclone_calls _ _ o).mono ?_;rintro e w' ⟨rfl,D⟩)
 go_ret;exact ⟨rfl,‹_›⟩
def dmk (l:List UInt8):ByteArray:=⟨l.toArray⟩
def strI (ns:List Int):ByteArray:=ns.foldl (fun r n=>r.push (UInt8.ofNat n.toNat)) ByteArray.empty
theorem strI_eq (ns:List Int):strI ns=dmk (ns.map fun n=>UInt8.ofNat n.toNat):=by
 have h:∀(ns:List Int) (r:ByteArray),ns.foldl (fun r n=>r.push (UInt8.ofNat n.toNat)) r=⟨r.data++(ns.map fun n=>UInt8.ofNat n.toNat).toArray⟩:=by
  intro ns
  induction ns with
  | nil=>intro r;simp
  | cons n ns ih=>intro r;simp only [List.foldl_cons];rw [ih];simp [ByteArray.push]
 unfold strI dmk;rw [h];simp [ByteArray.empty,ByteArray.emptyWithCapacity];rfl
theorem dconv_raw (w:World) (b:Nat) (ns:List Int) (t:TypeId) (fz:Nat×Nat) (c:Nat) (hh:w.heap[b]?=some (.cells (ns.map (Value.int .u8)).toArray t fz)):
  (convert 76 9 (.slice (some ⟨b,0,none⟩) ns.length c)).run Tryz.prog w=.ok (.string (strI ns)) w:=by
 rw [run_convert_bytes_string w 76 9 5 (some ⟨b,0,none⟩) ns.length c Tryz.underlying76 Tryz.underlying5 Tryz.underlying9]
 have o:=run_loadCells_list (P:=Tryz.prog) w ⟨b,0,none⟩ (ns.map (Value.int .u8)) (fun j v D=>by
  have:(⟨b,0,none⟩:Addr).add j=⟨b,j,none⟩:=by unfold Addr.add;split <;> simp_all
  rw [this];unfold World.cell?;simp only [hh];simpa using D)
 rw [zau] at o;exact run_bytesToString w ⟨b,0,none⟩ ns.length c ns o
theorem dconv4 (w:World) (a0 a1 a2 a3:Int):
  (convert 76 9 (.slice (some ⟨w.heap.size,0,none⟩) 4 4)).run Tryz.prog (w.alloc (.cells #[.int .u8 a0,.int .u8 a1,.int .u8 a2,.int .u8 a3] 5))=
   .ok (.string (strI [a0,a1,a2,a3])) (w.alloc (.cells #[.int .u8 a0,.int .u8 a1,.int .u8 a2,.int .u8 a3] 5)):=
 dconv_raw _ _ [a0,a1,a2,a3] 5 (0,0) 4 (zax _ _)
theorem dconv1 (w:World) (a0:Int):
  (convert 76 9 (.slice (some ⟨w.heap.size,0,none⟩) 1 1)).run Tryz.prog (w.alloc (.cells #[.int .u8 a0] 5))=
   .ok (.string (strI [a0])) (w.alloc (.cells #[.int .u8 a0] 5)):=
 dconv_raw _ _ [a0] 5 (0,0) 1 (zax _ _)
theorem dconv8 (w:World) (t:TypeId) (a0 a1 a2 a3 a4 a5 a6 a7:Int):
  (convert 76 9 (.slice (some ⟨w.heap.size,0,none⟩) 8 8)).run Tryz.prog (w.alloc (.cells #[.int .u8 a0,.int .u8 a1,.int .u8 a2,.int .u8 a3,.int .u8 a4,.int .u8 a5,.int .u8 a6,.int .u8 a7] t))=
   .ok (.string (strI [a0,a1,a2,a3,a4,a5,a6,a7])) (w.alloc (.cells #[.int .u8 a0,.int .u8 a1,.int .u8 a2,.int .u8 a3,.int .u8 a4,.int .u8 a5,.int .u8 a6,.int .u8 a7] t)):=
 dconv_raw _ _ [a0,a1,a2,a3,a4,a5,a6,a7] t (0,0) 8 (zax _ _)
theorem strI_four {a0 a1 a2 a3:Int} (n:Nat) (h0:a0=((n / 16777216 % 256:Nat):Int)) (h1:a1=((n / 65536 % 256:Nat):Int)) (h2:a2=((n / 256 % 256:Nat):Int)) (h3:a3=((n % 256:Nat):Int)):
  strI [a0,a1,a2,a3]=dmk (four n):=by
 rw [strI_eq]
 have e (k:Nat):UInt8.ofNat ((k % 256:Nat):Int).toNat=UInt8.ofNat k:=by
  rw [za1];apply UInt8.toNat_inj.1;simp
 simp only [List.map_cons,List.map_nil,h0,h1,h2,h3,e];rfl
theorem strI_size (ns:List Int):(strI ns).size=ns.length:=by
 rw [strI_eq];simp [dmk,ByteArray.size]
theorem dret_str {a b:ByteArray} (h:a=b):Ending.returned (.string a)=.returned (.string b):=by rw [h]
theorem dlen_calls (s:ByteArray) (w:World) (o:s.size<=1000000000):
  Calls Tryz.prog 209 #[.string s] w fun e w'=>e=.returned (.string (dmk (lenb s.data.toList)))/\Below w.heap.size w w':=by
 have D:=dconv4 w
 go_enter Tryz.func209,Tryz.ntmps209
 go_wp2;go_ret
 exact ⟨dret_str (by
  have e:lenb s.data.toList=four s.size:=rfl;rw [e];refine strI_four s.size ?_ ?_ ?_ ?_ <;> omega),(Below.refl _ _).alloc (Fy _) _⟩
theorem dbytes4_calls (n:Nat) (w:World) (o:n<2147483648):
  Calls Tryz.prog 136 #[.int .i64 n] w fun e w'=>e=.returned (.string (dmk (four n)))/\Below w.heap.size w w':=by
 have D:=dconv4 w
 go_enter Tryz.func136,Tryz.ntmps136
 go_wp2;go_ret;exact ⟨dret_str (by refine strI_four n ?_ ?_ ?_ ?_ <;> omega),(Below.refl _ _).alloc (Fy _) _⟩
def digV (l:List UInt8):Value:=.agg (l.map fun c=>Value.int .u8 (c.toNat:Int)).toArray
theorem dtext_calls (a0 a1 a2 a3 a4 a5 a6 a7:Int) (w:World):
  Calls Tryz.prog 194 #[.agg #[.int .u8 a0,.int .u8 a1,.int .u8 a2,.int .u8 a3,.int .u8 a4,.int .u8 a5,.int .u8 a6,.int .u8 a7]] w fun e w'=>e=.returned (.string (strI [a0,a1,a2,a3,a4,a5,a6,a7]))/\Below w.heap.size w w':=by
 have D:=dconv8 w 228
 go_enter Tryz.func194,Tryz.ntmps194
 go_wp2_with (go_at_call 222;refine (sclone_calls _ _ ?_).mono ?_;(rw [strI_size];simp only [zaG,zaH];omega);rintro e w' ⟨rfl,o⟩)
 go_ret;exact ⟨rfl,Below.trans ((Below.refl _ _).alloc (Fy _) _) (Below.mono ‹_› (by simp))⟩
def dcat (ss:List ByteArray):List UInt8:=(ss.map (·.data.toList)).flatten
theorem dcat_snoc (ss:List ByteArray) (k:Nat) (h:k<ss.length):dcat (ss.take (k+1))=dcat (ss.take k)++ss[k].data.toList:=by
 unfold dcat;rw [FF h,za2,List.flatten_append];simp
theorem dtake_snoc (l:List UInt8) (k:Nat) (h:k<l.length):l.take (k+1)=l.take k++[l[k]]:=by
 rw [FF h]
theorem bytesRow_get (s:ByteArray) (c j:Nat) (o:j<s.size):(bytesRow s c)[j]?=some (.int .u8 (s.data.toList[j]'(by simpa using o)).toNat):=by
 unfold bytesRow;rw [Array.getElem?_append_left (by simpa using o)];rw [Array.getElem?_map,Array.getElem?_eq_getElem (by simpa using o)];simp
theorem digV_four (x y:Nat) (o:x<2147483647) (D:y<2147483629):digV (four x++four y)=.agg #[.int .u8 ((x:Int) / 16777216),.int .u8 ((x:Int) / 65536 % 256),.int .u8 ((x:Int) / 256 % 256),.int .u8 ((x:Int) % 256),.int .u8 ((y:Int) / 16777216),.int .u8 ((y:Int) / 65536 % 256),.int .u8 ((y:Int) / 256 % 256),.int .u8 ((y:Int) % 256)]:=by
 have e1:(x / 16777216) % 256=x / 16777216:=by omega
 have e2:(y / 16777216) % 256=y / 16777216:=by omega
 simp [digV,four,e1,e2]
theorem dbelow_row {g:Nat} {w0:World} (D:Below B w0 w) (o:B<=g) (cs:Array Value):Below B w0 (w.setRow g cs):=
 D.trans ⟨rfl,rfl,rfl,by simp [World.setRow],fun k E=>setRow_other w g k cs (by omega)⟩
theorem dofn_calls (w:World) (b n:Nat) (ss:List ByteArray) (hn:n=ss.length) (b5:b<w.heap.size) (e0:ss.length<=5)
  (hc:∀i (h:i<ss.length),w.cell? ⟨b,i,none⟩=some (.string ss[i])) (a5:∀i (h:i<ss.length),ss[i].size<=1000000000):
  Calls Tryz.prog 193 #[.slice (some ⟨b,0,none⟩) n n] w fun e w'=>e=.returned (digV (BB (dcat ss)))/\Below w.heap.size w w':=by
 subst hn;have H:=zh hc;clear hc;have H2:=zh a5;clear a5
 go_enter Tryz.func193,Tryz.ntmps193
 go_wp2;go_loopw [3,4,13] (fun x y i wr=>∃k:Nat,k<=ss.length/\i=.int .i64 k/\x=.int .u64 (dgRX 20 (dcat (ss.take k)))/\y=.int .u64 (dgRY 26 (dcat (ss.take k)))/\Hid (wr.heap[w.heap.size]?=some (.cells #[.int .u8 0,.int .u8 0,.int .u8 0,.int .u8 0,.int .u8 0,.int .u8 0,.int .u8 0,.int .u8 0] 228 (0,0)))/\Below w.heap.size w wr) (fun _ _ i _=>ss.length - (intOf i).toNat)
 case atStart=>exact ⟨0,FN _,rfl,rfl,rfl,zax _ _,(Below.refl _ _).alloc (Fy _) _⟩
 case round=>
  obtain ⟨k,hk,rfl,rfl,rfl,hz,hb⟩:=hrel;by_cases I:k<ss.length
  ·have hx:=dcat_snoc ss k I;have U:=(hb.cell (p:=⟨b,k,none⟩) b5).trans (H.out k I);have b7:=H2.out k I;obtain ⟨s,hs⟩:=zaI (ss[k]);rw [<-hs] at U hx b7;have HS:=zh hs;clear hs;have HX:=zh hx;clear hx;have J:=dgRX_lt (dcat (ss.take k)) 20 (by decide);have M:=dgRY_lt (dcat (ss.take k)) 26 (by decide);obtain ⟨x0,D⟩:=zaI (dgRX 20 (dcat (ss.take k)));obtain ⟨y0,E⟩:=zaI (dgRY 26 (dcat (ss.take k)));rw [<-D] at J⊢;rw [<-E] at M⊢;have b1:=zh D;clear D;have b2:=zh E;clear E;have G:=run_bytes_of_string wr 9 76 5 s Tryz.underlying9 Tryz.underlying76 Tryz.underlying5;obtain ⟨c,a4⟩:=zaI (grownCap wr s.size 0 5);rw [<-a4] at G;clear a4;obtain ⟨C,hC⟩:=zaI (bytesRow s c);rw [<-hC] at G;have HC:=zh hC;clear hC;go_wp2
   have O:Hid (∀j (hj:j<s.size),(wr.alloc (.cells C 5 (C.size,C.size+1))).cell? ⟨wr.heap.size,j,none⟩=some (.int .u8 (s.data.toList[j]'(by simpa using hj)).toNat)):=by
    intro j hj;rw [HC.out];have hh:=zax wr (.cells (bytesRow s c) 5 ((bytesRow s c).size,(bytesRow s c).size+1));unfold World.cell?;simp only [hh];exact bytesRow_get s c j hj
   go_loop [3,4,20] (fun x y i=>∃j:Nat,j<=s.size/\i=.int .i64 j/\x=.int .u64 (dgRX x0 (s.data.toList.take j))/\y=.int .u64 (dgRY y0 (s.data.toList.take j))) (fun _ _ i=>s.size - (intOf i).toNat)
   case atStart=>exact ⟨0,FN _,rfl,rfl,rfl⟩
   case round=>
    obtain ⟨j,hj,rfl,rfl,rfl⟩:=hrel;by_cases a0:j<s.size
    ·have b4:=O.out j a0;have Q:=dtake_snoc s.data.toList j (by simpa using a0);have b9:=dgRX_lt (s.data.toList.take j) x0 J;have c0:=dgRY_lt (s.data.toList.take j) y0 M;obtain ⟨ch,V⟩:=zaI (s.data.toList[j]'(by simpa using a0));rw [<-V] at b4 Q;clear V;have hX:dgRX x0 (s.data.toList.take (j+1))=dgSX (dgRX x0 (s.data.toList.take j)) ch:=by rw [Q,EU];rfl
     have hY:dgRY y0 (s.data.toList.take (j+1))=dgSY (dgRY y0 (s.data.toList.take j)) ch:=by rw [Q,EV];rfl
     clear Q;have a1:=zh hX;clear hX;have a2:=zh hY;clear hY;obtain ⟨x1,a6⟩:=zaI (dgRX x0 (s.data.toList.take j));obtain ⟨y1,a7⟩:=zaI (dgRY y0 (s.data.toList.take j));rw [<-a6] at b9 a1⊢;rw [<-a7] at c0 a2⊢;clear a6 a7;have V:=ch.toNat_lt;go_wp2
     go_round
     case rel=>exact ⟨j+1,by omega,by go_num,by rw [a1.out];unfold dgSX;congr 1,by rw [a2.out];unfold dgSY;congr 1⟩
     case measure=>simp [intOf];omega
    ·have:j=s.size:=by omega
     subst this
     have e1:dgRX x0 (s.data.toList.take s.size)=dgRX 20 (dcat (ss.take (k+1))):=by
      rw [List.take_of_length_le (by simp),HX.out,EU,<-b1.out]
     have e2:dgRY y0 (s.data.toList.take s.size)=dgRY 26 (dcat (ss.take (k+1))):=by
      rw [List.take_of_length_le (by simp),HX.out,EV,<-b2.out]
     rw [e1,e2];clear e1 e2;go_wp2;go_roundw
     case rel=>exact ⟨k+1,by omega,by go_num,rfl,rfl,(zad _ _ _ (zd hz.out)).trans hz,(hb.alloc hb.size _).drew⟩
     case measure=>simp [intOf];omega
  ·obtain rfl:k=ss.length:=by omega
   rw [FJ];have J:=dgRX_lt (dcat ss) 20 (by decide);have M:=dgRY_lt (dcat ss) 26 (by decide);obtain ⟨x0,D⟩:=zaI (dgRX 20 (dcat ss));obtain ⟨y0,E⟩:=zaI (dgRY 26 (dcat ss));have hd:BB (dcat ss)=four x0++four y0:=by rw [D,E];rfl
   rw [<-D] at J⊢;rw [<-E] at M⊢;clear D E;have HD:=zh hd;clear hd;go_wp2;refine wp_loop_rounds 5 ?_;rw [rounds_succ];go_wp2
   go_region
   go_wp2;rw [rounds_succ];go_wp2
   go_region
   go_wp2;rw [rounds_succ];go_wp2
   go_region
   go_wp2;rw [rounds_succ];go_wp2
   go_region
   go_wp2;rw [rounds_succ];have a8:∀o:Obj,(wr.alloc o).heap[w.heap.size]?=some (.cells #[.int .u8 0,.int .u8 0,.int .u8 0,.int .u8 0,.int .u8 0,.int .u8 0,.int .u8 0,.int .u8 0] 228 (0,0)):=fun o=>(zad _ _ _ (zd hz.out)).trans hz.out
   go_wp2_with (refine wpList_store_row rfl 228 (.tmp 2) (.tmp 61) rfl w.heap.size #[.int .u8 (x0 / 16777216),.int .u8 (x0 / 65536 % 256),.int .u8 (x0 / 256 % 256),.int .u8 (x0 % 256),.int .u8 (y0 / 16777216),.int .u8 (y0 / 65536 % 256),.int .u8 (y0 / 256 % 256),.int .u8 (y0 % 256)] rfl rfl 228 #[.int .u8 0,.int .u8 0,.int .u8 0,.int .u8 0,.int .u8 0,.int .u8 0,.int .u8 0,.int .u8 0] ?c1 ?c2 ?c3 ?c4 ?_)
   case c1=>exact a8 _
   case c2=>kernel_rfl
   case c3=>rfl
   case c4=>simp [Value.oneCell']
   refine za5 (v:=.agg #[.int .u8 (x0 / 16777216),.int .u8 (x0 / 65536 % 256),.int .u8 (x0 / 256 % 256),.int .u8 (x0 % 256),.int .u8 (y0 / 16777216),.int .u8 (y0 / 65536 % 256),.int .u8 (y0 / 256 % 256),.int .u8 (y0 % 256)]) ?_ rfl ⟨?_,?_⟩
   ·exact results_cell_row (p:=2) (ty:=228) rfl _ _ w.heap.size 228 _ (0,0) _ rfl (setRow_heap _ _ _ _ 228 (0,0) (a8 _)) Tryz.underlying228 rfl (by kernel_rfl)
   ·rw [HD.out,digV_four x0 y0 J M]
   ·exact dbelow_row (((hb.alloc hb.size _).drew.drew.drew.drew)) (Fy _) _
theorem text_dig (l:List UInt8) (h:l.length=8) (w:World):
  Calls Tryz.prog 194 #[digV l] w fun e w'=>e=.returned (.string (dmk l))/\Below w.heap.size w w':=by
 match l,h with
 | [a,b,c,d,e,f,g,i],_=>
  refine (dtext_calls a.toNat b.toNat c.toNat d.toNat e.toNat f.toNat g.toNat i.toNat w).mono ?_;rintro e w' ⟨rfl,o⟩;refine ⟨?_,o⟩;rw [strI_eq];simp
theorem DM {a:World} (h:Below B a w) (o:Below w.heap.size w w') (D:B<=a.heap.size):Below B a w':=h.trans (o.mono (FA D h.size))
theorem dcells_new (w:World) (ss:List ByteArray):∀i (h:i<ss.length),(w.alloc (.cells (ss.map Value.string).toArray 9)).cell? ⟨w.heap.size,i,none⟩=some (.string ss[i]):=by
 intro i h;have hh:=zax w (.cells (ss.map Value.string).toArray 9);unfold World.cell?;simp only [hh];simp [h]
theorem dofn_list (w:World) (n:Nat) (ss:List ByteArray) (G:n=ss.length) (o:ss.length<=5) (D:∀i (h:i<ss.length),ss[i].size<=1000000000):
  Calls Tryz.prog 193 #[.slice (some ⟨w.heap.size,0,none⟩) n n] (w.alloc (.cells (ss.map Value.string).toArray 9)) fun e w'=>e=.returned (digV (BB (dcat ss)))/\Below w.heap.size w w':=by
 refine (dofn_calls _ w.heap.size n ss G (by simp) o (dcells_new w ss) D).mono ?_;rintro e w' ⟨rfl,E⟩;exact ⟨rfl,DM ((Below.refl _ w).alloc (Fy _) _) E (Fy _)⟩
theorem dofn1 (w:World) (s:ByteArray) (o:s.size<=1000000000):
  Calls Tryz.prog 193 #[.slice (some ⟨w.heap.size,0,none⟩) 1 1] (w.alloc (.cells #[.string s] 9)) fun e w'=>e=.returned (digV (BB s.data.toList))/\Below w.heap.size w w':=by
 have h:=dofn_list w 1 [s] rfl (by simp) (by intro i h;have:i=0:=(by simpa using h);subst this;exact o);have e:dcat [s]=s.data.toList:=by simp [dcat]
 rw [e] at h;exact h
theorem dofn4 (w:World) (s0 s1 s2 s3:ByteArray) (h0:s0.size<=1000000000) (h1:s1.size<=1000000000) (h2:s2.size<=1000000000) (h3:s3.size<=1000000000):
  Calls Tryz.prog 193 #[.slice (some ⟨w.heap.size,0,none⟩) 4 4] (w.alloc (.cells #[.string s0,.string s1,.string s2,.string s3] 9)) fun e w'=>e=.returned (digV (BB (s0.data.toList++(s1.data.toList++(s2.data.toList++s3.data.toList)))))/\Below w.heap.size w w':=by
 have h:=dofn_list w 4 [s0,s1,s2,s3] rfl (by simp) (by
  intro i h
  match i,h with
  | 0,_=>exact h0
  | 1,_=>exact h1
  | 2,_=>exact h2
  | 3,_=>exact h3)
 have e:dcat [s0,s1,s2,s3]=s0.data.toList++(s1.data.toList++(s2.data.toList++s3.data.toList)):=by simp [dcat]
 rw [e] at h;exact h
theorem dmk_size (l:List UInt8):(dmk l).size=l.length:=by simp [dmk,ByteArray.size]
theorem dmk_data (l:List UInt8):(dmk l).data.toList=l:=by simp [dmk]
theorem Of_calls (s:ByteArray) (w:World) (E:s.size<=1000000000):
  Calls Tryz.prog 141 #[.string s] w fun e w'=>e=.returned (.string (dmk (BB s.data.toList)))/\Below w.heap.size w w':=by
 go_enter Tryz.func141,Tryz.ntmps141
 go_wp2_with fail
 refine (dofn1 w s E).mono ?_;rintro e w1 ⟨rfl,o⟩
 go_wp2_with fail
 refine (text_dig _ (Aw _) _).mono ?_;rintro e w2 ⟨rfl,D⟩
 go_wp2_with fail
 go_ret;exact ⟨rfl,DM o D (Fy _)⟩
theorem Chain_calls (a b:ByteArray) (w:World) (G:a.size<=1000000000) (I:b.size<=1000000000):
  Calls Tryz.prog 154 #[.string a,.string b] w fun e w'=>e=.returned (.string (dmk (Dl a.data.toList b.data.toList)))/\Below w.heap.size w w':=by
 go_enter Tryz.func154,Tryz.ntmps154
 go_wp2_with fail
 refine (dlen_calls a _ G).mono ?_;rintro e w1 ⟨rfl,o⟩
 go_wp2_with fail
 refine (dofn4 w1 ⟨#[1]⟩ _ a b (by decide) (by rw [dmk_size];exact Nat.le_of_ble_eq_true rfl) G I).mono ?_;rintro e w2 ⟨rfl,D⟩;rw [dmk_data]
 go_wp2_with fail
 refine (text_dig _ (Aw _) _).mono ?_;rintro e w3 ⟨rfl,E⟩
 go_wp2_with fail
 go_ret;exact ⟨rfl,DM (DM o D (Fy _)) E (Fy _)⟩
theorem dapp_data1 (c:UInt8) (l:List UInt8) (a b:ByteArray):((⟨#[c]⟩:ByteArray)++dmk l++a++b).data.toList=c :: (l++(a.data.toList++b.data.toList)):=by simp [dmk]
theorem dmk_app (a b:List UInt8):dmk a++dmk b=dmk (a++b):=by
 apply ByteArray.ext;simp [dmk]
theorem rOf_calls (s:ByteArray) (w:World) (hs:s.size<=4000000000):
  Calls Tryz.prog 68 #[.string s] w fun e w'=>e=.returned (.string (dmk (BB s.data.toList)))/\Below w.heap.size w w':=by
 go_enter Tryz.func68,Tryz.ntmps68
 go_wp2
 go_loop [3,4,5] (fun x y i=>∃j:Nat,j<=s.size/\i=.int .i64 j/\x=.int .i64 (dgRX 20 (s.data.toList.take j))/\y=.int .i64 (dgRY 26 (s.data.toList.take j))) (fun _ _ i=>s.size - (intOf i).toNat)
 case atStart=>exact ⟨0,FN _,rfl,rfl,rfl⟩
 case round=>
  obtain ⟨j,hj,rfl,rfl,rfl⟩:=hrel;have M:=dgRX_lt (s.data.toList.take j) 20 (by decide);have Q:=dgRY_lt (s.data.toList.take j) 26 (by decide);by_cases D:j<s.size
  ·have E:=dtake_snoc s.data.toList j (by simpa using D);obtain ⟨ch,o⟩:=zaI (s[j]'D);rw [show s.data.toList[j]'(by simpa using D)=ch from o.symm] at E;have G:=zh o;clear o;have V:dgRX 20 (s.data.toList.take (j+1))=dgSX (dgRX 20 (s.data.toList.take j)) ch:=by rw [E,EU];rfl
   have hY:dgRY 26 (s.data.toList.take (j+1))=dgSY (dgRY 26 (s.data.toList.take j)) ch:=by rw [E,EV];rfl
   clear E;have I:=zh V;clear V;have J:=zh hY;clear hY;obtain ⟨x1,O⟩:=zaI (dgRX 20 (s.data.toList.take j));obtain ⟨y1,U⟩:=zaI (dgRY 26 (s.data.toList.take j));rw [<-O] at M I⊢;rw [<-U] at Q J⊢;clear O U;have o:(s[j]'D).toNat<256:=by rw [<-G.out];exact ch.toNat_lt
   go_wp2
   go_round
   case rel=>exact ⟨j+1,by omega,by go_num,by rw [I.out,G.out];unfold dgSX;congr 1,by rw [J.out,G.out];unfold dgSY;congr 1⟩
   case measure=>simp [intOf];omega
  ·have:j=s.size:=by omega
   subst this;rw [List.take_of_length_le (by simp)] at M Q⊢
   go_wp2_with (go_at_call 136;refine (dbytes4_calls _ _ (by omega)).mono ?_;rintro e w' ⟨rfl,hb⟩)
   go_ret;exact ⟨dret_str (by rw [dmk_app];rfl),DM ‹_› ‹_› (Fy _)⟩
theorem rChain_calls (a b:ByteArray) (w:World) (I:a.size<=1000000000) (J:b.size<=1000000000):
  Calls Tryz.prog 69 #[.string a,.string b] w fun e w'=>e=.returned (.string (dmk (Dl a.data.toList b.data.toList)))/\Below w.heap.size w w':=by
 go_enter Tryz.func69,Tryz.ntmps69
 go_wp2_with fail
 refine (dbytes4_calls a.size _ (by omega)).mono ?_;rintro e w1 ⟨rfl,E⟩;have hf:(dmk (four a.size)).size<=4:=Nat.le_of_eq (by rw [dmk_size];rfl)
 go_wp2_with fail
 have D:((⟨#[1]⟩:ByteArray)++dmk (four a.size)++a++b).size<=4000000000:=by
  simp only [ByteArray.size_append,show (ByteArray.size ⟨#[1]⟩)=1 from rfl];omega
 have o:((⟨#[1]⟩:ByteArray)++dmk (four a.size)++a++b).data.toList=1 :: (lenb a.data.toList++(a.data.toList++b.data.toList)):=by
  exact dapp_data1 1 (four a.size) a b
 refine (rOf_calls _ _ D).mono ?_;rintro e w2 ⟨rfl,G⟩;rw [o];clear D o
 go_wp2_with fail
 go_ret;exact ⟨rfl,DM E G (Fy _)⟩
end
section
open Go.RowKit Go.Shelf
attribute [local go_sem ↓] Go.wp_at_zero Go.wp_at_succ
theorem mdec_calls:∀(N:Nat) (n:Int) (w:World),Cz n->2*n.natAbs+(if n<0 then 1 else 0)<N->Calls Tryz.prog 109 #[.int .i64 n] w fun e w'=>e=.returned (.string ⟨(Lib.itoa n).toArray⟩)/\za w w'
 | 0,n,w,_,h=>by omega
 | N+1,n,w,hn,J=>by
  have IH:Hid (∀(n:Int) (w:World),Cz n->2*n.natAbs+(if n<0 then 1 else 0)<N->Calls Tryz.prog 109 #[.int .i64 n] w fun e w'=>e=.returned (.string ⟨(Lib.itoa n).toArray⟩)/\za w w'):=mdec_calls N;have a9:=hn;obtain ⟨a7,a8⟩:=a9;by_cases h0:0<=n
  ·rw [if_neg (by omega)] at J;by_cases h1:n<10
   ·have hc:=dconv1 w (48+n);have hw:IntKind.u8.wrap (48+n)=48+n:=by rw [IntKind.wrap_u8];omega
    have c0:IntKind.i64.wrap (48+n)=48+n:=by rw [zag];omega
    have o:Hid (strI [48+n]=⟨(Lib.itoa n).toArray⟩):=by
     (show _=_)
     rw [strI_eq,itoa_one h0 h1];show dmk [UInt8.ofNat (48+n).toNat]=_;rw [show (48+n).toNat=48+n.toNat from by omega];rfl
    clear J IH hn
    go_enter Tryz.func109,Tryz.ntmps109
    go_wp2_with fail
    go_ret;exact ⟨by first | exact dret_str o.out | (simp;exact o.out),(za.refl w).alloc _⟩
   ·obtain ⟨q,Q⟩:=zaI (n.tdiv 10);obtain ⟨r,U⟩:=zaI (n.tmod 10);have b2:q=n / 10:=by rw [Q,Int.tdiv_eq_ediv_of_nonneg h0]
    have b5:r=n % 10:=by rw [U,Int.tmod_eq_emod_of_nonneg h0]
    have a4:n.tdiv 10=q:=Q.symm;have a5:n.tmod 10=r:=U.symm;have b0:IntKind.i64.wrap (n.tdiv 10)=q:=by rw [a4,zag];omega
    have b3:IntKind.i64.wrap (n.tmod 10)=r:=by rw [a5,zag];omega
    have b1:wrap64 q=q:=IntWalk.wrap64_in _ (by omega);have b4:wrap64 r=r:=IntWalk.wrap64_in _ (by omega);have o:Hid (Lib.itoa n=Lib.itoa q++Lib.itoa r):=by (show _=_);rw [itoa_plus h0 h1,a4,a5]
    have HQ:Hid (∀w,Calls Tryz.prog 109 #[.int .i64 q] w fun e w'=>e=.returned (.string ⟨(Lib.itoa q).toArray⟩)/\za w w'):=fun w=>IH.out q w ⟨by omega,by omega⟩ (by rw [if_neg (by omega)];omega)
    have G:Hid (∀w,Calls Tryz.prog 109 #[.int .i64 r] w fun e w'=>e=.returned (.string ⟨(Lib.itoa r).toArray⟩)/\za w w'):=fun w=>IH.out r w ⟨by omega,by omega⟩ (by rw [if_neg (by omega)];omega)
    have l1:=Cn (n:=q) ⟨by omega,by omega⟩;have l2:=Cn (n:=r) ⟨by omega,by omega⟩;obtain ⟨x,hx⟩:=zaI (Lib.itoa q);obtain ⟨y,E⟩:=zaI (Lib.itoa r);rw [<-hx] at o HQ l1;rw [<-E] at o G l2;have ha:∀w,(Op.stringOp .add ⟨x.toArray⟩ ⟨y.toArray⟩).run Tryz.prog w=.ok (.string ⟨(x++y).toArray⟩) w:=fun w=>zJ (by omega)
    clear J IH hn Q U b2 b5 hx E l1 l2
    go_enter Tryz.func109,Tryz.ntmps109
    go_wp2_with fail
    with_reducible refine (HQ.out w).mono ?_
    rintro e w1 ⟨rfl,D⟩
    go_wp2_with fail
    with_reducible refine (G.out w1).mono ?_
    rintro e w2 ⟨rfl,I⟩
    go_wp2_with fail
    go_ret;exact ⟨CE o.out.symm,D.trans I⟩
  ·rw [if_pos (by omega)] at J;have M:n<0:=by omega
   obtain ⟨k,rfl⟩:∃k:Nat,n=-(k:Int):=⟨n.natAbs,by omega⟩;have e1:(-(k:Int)).tdiv 10=-((k / 10:Nat):Int):=by rw [Int.neg_tdiv];rfl
   have e2:(-(k:Int)).tmod 10=-((k % 10:Nat):Int):=by rw [Int.neg_tmod];rfl
   obtain ⟨n,O⟩:=zaI (-(k:Int));obtain ⟨q,Q⟩:=zaI (-((k / 10:Nat):Int));obtain ⟨r,U⟩:=zaI (((k % 10:Nat):Int));rw [<-O] at e1 e2 M h0 J a7 a8⊢;rw [<-Q] at e1;rw [<-U] at e2;have b0:IntKind.i64.wrap (n.tdiv 10)=q:=by rw [e1,zag];omega
   have b3:IntKind.i64.wrap (n.tmod 10)=-r:=by rw [e2,zag];omega
   have b1:wrap64 q=q:=IntWalk.wrap64_in _ (by omega);have b9:wrap64 r=r:=IntWalk.wrap64_in _ (by omega);have b4:IntKind.i64.wrap (- -r)=r:=by rw [zag];omega
   have b8:IntKind.i64.wrap r=r:=by rw [zag];omega
   have a3:- -r=r:=by omega
   have a2:n.natAbs=k:=by omega
   have G:Hid (∀w,Calls Tryz.prog 109 #[.int .i64 r] w fun e w'=>e=.returned (.string ⟨(Lib.itoa r).toArray⟩)/\za w w'):=fun w=>IH.out r w ⟨by omega,by omega⟩ (by rw [if_neg (by omega)];omega)
   have l2:=Cn (n:=r) ⟨by omega,by omega⟩;by_cases V:q=0
   ·have b6:(q==0)=true:=by simp [V]
    have o:Hid (Lib.itoa n=45 :: Lib.itoa r):=by
     (show _=_)
     have h:=itoa_sign M (by rw [e1];exact V);rw [e2,a3] at h;exact h
    obtain ⟨y,E⟩:=zaI (Lib.itoa r);rw [<-E] at o G l2;have ha:∀w,(Op.stringOp .add ⟨#[45]⟩ ⟨y.toArray⟩).run Tryz.prog w=.ok (.string ⟨(45 :: y).toArray⟩) w:=fun w=>zJ (x:=[45]) (by simp;omega)
    clear J IH hn O Q U E l2 V a2
    go_enter Tryz.func109,Tryz.ntmps109
    go_wp2_with fail
    with_reducible refine (G.out w).mono ?_
    rintro e w1 ⟨rfl,D⟩
    go_wp2_with fail
    go_ret;exact ⟨CE o.out.symm,D⟩
   ·have b6:(q==0)=false:=by simp [V]
    have o:Hid (Lib.itoa n=Lib.itoa q++Lib.itoa r):=by
     (show _=_)
     have h:=itoa_more M (by rw [e1];exact V);rw [e1,e2,a3] at h;exact h
    have HQ:Hid (∀w,Calls Tryz.prog 109 #[.int .i64 q] w fun e w'=>e=.returned (.string ⟨(Lib.itoa q).toArray⟩)/\za w w'):=fun w=>IH.out q w ⟨by omega,by omega⟩ (by rw [if_pos (by omega)];omega)
    have l1:=Cn (n:=q) ⟨by omega,by omega⟩;obtain ⟨x,hx⟩:=zaI (Lib.itoa q);obtain ⟨y,E⟩:=zaI (Lib.itoa r);rw [<-hx] at o HQ l1;rw [<-E] at o G l2;have ha:∀w,(Op.stringOp .add ⟨x.toArray⟩ ⟨y.toArray⟩).run Tryz.prog w=.ok (.string ⟨(x++y).toArray⟩) w:=fun w=>zJ (by omega)
    clear J IH hn O Q U hx E l1 l2 V a2
    go_enter Tryz.func109,Tryz.ntmps109
    go_wp2_with fail
    with_reducible refine (HQ.out w).mono ?_
    rintro e w1 ⟨rfl,D⟩
    go_wp2_with fail
    with_reducible refine (G.out w1).mono ?_
    rintro e w2 ⟨rfl,I⟩
    go_wp2_with fail
    go_ret;exact ⟨CE o.out.symm,D.trans I⟩
theorem mdecimal (w:World) (o:Cz n):Calls Tryz.prog 109 #[.int .i64 n] w fun e w'=>e=.returned (.string ⟨(Lib.itoa n).toArray⟩)/\za w w':=mdec_calls _ n w o (Nat.lt_succ_self _)
theorem CM (w:World) (D:Cz n):Calls Tryz.prog 53 #[.int .i64 n] w fun e w'=>e=.returned (.string ⟨(wI n).toArray⟩)/\za w w':=by
 have E:=zh (mdecimal w D);have G:=Cn D;obtain ⟨d,o⟩:=zaI (Lib.itoa n);have I:Hid (wI n=d++[59]):=by rw [o];rfl
 rw [<-o] at G E;have M:∀w,(Op.stringOp .add ⟨d.toArray⟩ ⟨#[59]⟩).run Tryz.prog w=.ok (.string ⟨(d++[59]).toArray⟩) w:=fun w=>zJ (y:=[59]) (by simp;omega)
 clear o G D
 go_enter Tryz.func53,Tryz.ntmps53
 go_wp2_with fail
 refine E.out.mono ?_;rintro e w1 ⟨rfl,J⟩
 go_wp2_with fail
 go_ret;exact ⟨CE I.out.symm,J⟩
theorem wIs_take {l:List Int} (o:k<l.length):(l.take (k+1)).flatMap wI=(l.take k).flatMap wI++wI l[k]:=by
 rw [FF o,List.flatMap_append];simp
theorem Fa {ok:Nat->Prop} {v:Value} {l:List Int} (w:World) (hl:zg w ok v l) (hn:∀x∈l,Cz x) (a9:l.length<=1000000000000):Calls Tryz.prog 54 #[v] w fun e w'=>e=.returned (.string ⟨(wL l).toArray⟩)/\za w w':=by
 have HL:=zh hl;have HN:=zh hn;obtain ⟨A,c,rfl,-,U⟩:=hl;have a3:=zh U;clear hn U
 go_enter Tryz.func54,Tryz.ntmps54
 go_wp2_with fail
 go_loopw [3,4] (fun s i wr=>∃k:Nat,k<=l.length/\i=.int .i64 k/\s=.string ⟨(91 :: (l.take k).flatMap wI).toArray⟩/\Hid (za w wr)) (fun _ i _=>l.length - (intOf i).toNat)
 case atStart=>exact ⟨0,FN _,rfl,by simp,za.refl _⟩
 case round=>
  obtain ⟨k,hk,rfl,rfl,hE⟩:=hrel;obtain ⟨wk,rfl⟩:∃W:World,W=wr:=⟨_,rfl⟩;have hb:=wIs_len (l:=l.take k) (fun x D=>HN.out x (List.mem_of_mem_take D));have I:(l.take k).length<=l.length:=by simp;omega
  by_cases o:k<l.length
  ·have O:(k:Int)<(l.length:Int):=by omega
   have b3:(0:Int)<=(k:Int):=by omega
   obtain ⟨b,off,rfl,-,J⟩:=Ai a3.out o o;have a5:wk.cell? ⟨b,off+k,none⟩=some (.int .i64 l[k]):=hE.out.cell J;have E:Hid (91 :: (l.take (k+1)).flatMap wI=(91 :: (l.take k).flatMap wI)++wI l[k]):=by (show _=_);rw [wIs_take o];rfl
   have V:=Ca (HN.out _ (Fz o));have HC:=zh (CM wk (HN.out _ (Fz o)));obtain ⟨n,Q⟩:=zaI (l[k]);rw [<-Q] at a5 E HC V;obtain ⟨x,D⟩:=zaI (91 :: (l.take k).flatMap wI);obtain ⟨y,hy⟩:=zaI (wI n);have a6:x.length<=22*l.length+1:=by rw [D,zaG];omega
   rw [<-D] at E⊢;rw [<-hy] at E HC V;have ha:∀w,(Op.stringOp .add ⟨x.toArray⟩ ⟨y.toArray⟩).run Tryz.prog w=.ok (.string ⟨(x++y).toArray⟩) w:=fun w=>zJ (by omega)
   clear Q D hy J hb I
   go_wp2_with fail
   refine HC.out.mono ?_;rintro e w5 ⟨rfl,G⟩;have a1:Hid (za w w5):=hE.out.trans G;clear G
   go_wp2_with fail
   go_roundw
   case rel=>exact ⟨k+1,by omega,by go_num,by rw [E.out],a1⟩
   case measure=>simp [intOf];omega
  ·have M:k=l.length:=by omega
   have O:¬ ((k:Int)<(l.length:Int)):=by omega
   have E:Hid (wL l=(91 :: (l.take k).flatMap wI)++[93]):=by (show _=_);rw [M,FJ];rfl
   obtain ⟨x,D⟩:=zaI (91 :: (l.take k).flatMap wI);have a6:x.length<=22*l.length+1:=by rw [D,zaG];omega
   rw [<-D] at E⊢;have ha:∀w,(Op.stringOp .add ⟨x.toArray⟩ ⟨#[93]⟩).run Tryz.prog w=.ok (.string ⟨(x++[93]).toArray⟩) w:=fun w=>zJ (y:=[93]) (by simp;omega)
   clear M D hb I o
   go_wp2_with fail
   go_ret;exact ⟨CE E.out.symm,hE.out⟩
structure QrS (l:List UInt8) (s:Rd) (p:Nat):Prop where
 le:p<=l.length
 ok:s.2=false->s.1=l.drop p
 bad:s.2=true->s.1=[]
def Cg (w:World) (r:Nat) (l:List UInt8) (s:Rd):Prop:=∃p:Nat,QrS l s p/\ze w r 242 #[.string ⟨l.toArray⟩,.int .i64 p,.bool s.2]
theorem Cg.ext {w w':World} {r:Nat} {l:List UInt8} {s:Rd} (h:Cg w r l s) (o:za w w'):Cg w' r l s:=by obtain ⟨p,h1,h2⟩:=h;exact ⟨p,h1,h2.ext o⟩
theorem Cg.keep (h:Cg w r l s) (o:w'.heap[r]?=w.heap[r]?):Cg w' r l s:=by obtain ⟨p,h1,h2⟩:=h;exact ⟨p,h1,o.trans h2⟩
theorem mNew_calls (l:List UInt8) (w:World):Calls Tryz.prog 156 #[.string ⟨l.toArray⟩] w fun e w'=>e=.returned (.pointer (some ⟨w.heap.size,0,none⟩))/\za w w'/\Cg w' w.heap.size l (l,false):=by
 go_enter Tryz.func156,Tryz.ntmps156
 go_wp2_with fail
 go_ret;exact ⟨rfl,(za.refl w).alloc _,0,⟨FN _,fun _=>rfl,fun h=>by cases h⟩,ze.new _ _ _ rfl⟩
theorem mBad_calls (w:World) (h:Cg w r l s):Calls Tryz.prog 160 #[.pointer (some ⟨r,0,none⟩)] w fun e w'=>e=.returned (.bool s.2)/\w=w':=by
 obtain ⟨p,-,o⟩:=h;have c2:=o.cell (k:=2) rfl;clear o
 go_enter Tryz.func160,Tryz.ntmps160
 go_wp2_with fail
 go_ret;exact ⟨rfl,rfl⟩
theorem mLeft_calls (w:World) (h:Cg w r l s) (I:l.length<=1000000000000):Calls Tryz.prog 211 #[.pointer (some ⟨r,0,none⟩)] w fun e w'=>e=.returned (.int .i64 (AH s:Nat))/\za w w':=by
 obtain ⟨p,E,D⟩:=h;have c2:=D.cell (k:=2) rfl;have c0:=D.cell (k:=0) rfl;have c1:=D.cell (k:=1) rfl;obtain ⟨sl,b⟩:=s
 cases b with
 | true=>
  clear D c0 c1
  go_enter Tryz.func211,Tryz.ntmps211
  go_wp2_with fail
  go_ret;exact ⟨rfl,za.refl _⟩
 | false=>
  have h1:=E.ok rfl;have h2:=E.le;dsimp only at h1;have o:sl.length=l.length - p:=by rw [h1,zaC]
  have J:IntKind.i64.wrap ((l.length:Int) - (p:Int))=((l.length - p:Nat):Int):=by rw [zag];omega
  have G:Hid (((AH (sl,false):Nat):Int)=((l.length - p:Nat):Int)):=by (show _=_);unfold AH;simp [o]
  clear D h1 o E
  go_enter Tryz.func211,Tryz.ntmps211
  go_wp2_with fail
  go_quiet (fail)
  go_wp2_with fail
  go_ret;exact ⟨congrArg (fun x=>Ending.returned (Value.int .i64 x)) G.out.symm,(za.refl w).drewN _⟩
theorem Dz (w:World) (h:Cg w r l s):Calls Tryz.prog 212 #[.pointer (some ⟨r,0,none⟩)] w fun e w'=>e=.returned (.tuple #[])/\zu (·=r) w w'/\Cg w' r l ([],true):=by
 obtain ⟨p,D,o⟩:=h;have c2:=o.cell (k:=2) rfl;have hf:∀k,w.frozen? ⟨r,k,none⟩=false:=fun k=>o.frozen k
 have E:=zh o;have G:=zh D;clear o D
 go_enter Tryz.func212,Tryz.ntmps212
 go_wp2_with fail
 refine bodyPost_end (results_none rfl _ _ _) rfl ⟨rfl,Cs (X:=(·=r)) (zu.refl _ _) r 2 _ rfl,p,⟨G.out.le,(fun h=>by cases h),fun _=>rfl⟩,E.out.set (k:=2) _⟩
theorem get_at {i:Nat} (h:i<l.length) (o:i<(ByteArray.mk l.toArray).size):(ByteArray.mk l.toArray)[i]'o=l[i]:=by
 show (l.toArray)[i]=l[i];simp
theorem ext_mid (l:List UInt8) (p q:Nat) (h:p<=q):(ByteArray.mk l.toArray).extract p q=⟨((l.drop p).take (q - p)).toArray⟩:=by
 apply ByteArray.ext;simp [ByteArray.data_extract,List.extract]
def NumQ (r:Nat) (l:List UInt8) (s:Rd) (o:Option (Int×List UInt8)) (w:World) (e:Ending) (w':World):Prop:=
 zu (·=r) w w'/\(∀v b,o=some (v,b)->e=.returned (.tuple #[.int .i64 v,.bool true])/\Cg w' r l (b,false))/\(o=none->e=.returned (.tuple #[.int .i64 0,.bool false])/\Cg w' r l s)
theorem numP_long (h:l.take 22=a) (o:c∉a) (I:22<=l.length):numP c l=none:=by
 rw [numP_ref]
 cases E:Cw c l with
 | none=>rfl
 | some q=>
  obtain ⟨x,y⟩:=q;have h1:=(CG E).2;rw [Option.bind_some]
  cases G:BY x with
  | none=>rfl
  | some v=>
   obtain ⟨h2,h3⟩:=refNum_some G;have h4:=Cn h2;rw [h3] at h4
   exfalso
   apply o;rw [<-h,h1,List.take_append];refine za0.2 (.inr ?_);obtain ⟨k,D⟩:∃k,22 - x.length=k+1:=⟨21 - x.length,by omega⟩;rw [D,List.take_succ_cons];exact zaw ..
theorem DO {o:Option (Int×List UInt8)} (h:o=none) (D:zu (·=r) w w') (E:Cg w' r l s):NumQ r l s o w (.returned (.tuple #[.int .i64 0,.bool false])) w':=
 ⟨D,(fun v b e=>by rw [h] at e;cases e),fun _=>⟨rfl,E⟩⟩
theorem cut_none (h:c∉l):Cw c l=none:=by
 cases o:Cw c l with
 | none=>rfl
 | some q=>
  obtain ⟨a,b⟩:=q;exact absurd (by rw [(CG o).2];simp) h
theorem cut_of {c:UInt8}:∀{a b:List UInt8},c∉a->Cw c (a++c :: b)=some (a,b)
 | [],b,h=>by simp [Cw]
 | x :: a,b,h=>by
  have h1:x≠c:=fun e=>h (by rw [e];exact zaw ..)
  have h2:=cut_of (b:=b) (fun e=>h (zaf _ e):c∉a);simp [Cw,h1,h2]
theorem num_end (hp:p<=q) (o:q=l.length) (h:c∉(l.drop p).take (q - p)):numP c (l.drop p)=none:=by
 rw [List.take_of_length_le (by rw [zaC];omega)] at h;rw [numP_ref,cut_none h];rfl
theorem num_far (E:q=p+21) (D:q<l.length) (h:c∉(l.drop p).take (q - p)) (o:l[q]≠c):numP c (l.drop p)=none:=by
 refine numP_long rfl ?_ (by rw [zaC];omega);rw [List.take_add_one,List.getElem?_drop];rw [show q - p=21 by omega] at h;intro hm;rcases za0.1 hm with hm | hm
 ·exact h hm
 ·rw [<-E,Fw D,Option.toList_some] at hm;exact o (zar.1 hm).symm
def Dj (a:List UInt8) (f:Nat) (o:Option Int):Option Int:=
 if f=1 then o.bind fun n=>if Lib.itoa n=a then some n else none
 else o.bind fun n=>if n=-9223372036854775808 then none else if Lib.itoa (-n)=a then some (-n) else none
theorem num_neg (h:0<a.length) (o:a[0]=45):BY a=Dj a 1 (AC (a.drop 1) 0):=by
 unfold BY Dj;rw [if_pos (by rw [List.head?_eq_getElem?,Fw h,o]),if_pos rfl,List.drop_one]
theorem num_pos (h:∀h:0<a.length,a[0]≠45):BY a=Dj a 0 (AC (a.drop 0) 0):=by
 unfold BY Dj;rw [if_neg,if_neg (by decide),List.drop_zero];intro e
 cases a with
 | nil=>cases e
 | cons x a=>
  injection e with e;exact h (by simp) e
theorem num_at (hp:p<=q) (D:q<l.length) (h:c∉(l.drop p).take (q - p)) (o:l[q]=c):numP c (l.drop p)=(BY ((l.drop p).take (q - p))).map fun v=>(v,l.drop (q+1)):=by
 have e:l.drop p=(l.drop p).take (q - p)++c :: l.drop (q+1):=by
  rw [<-o,<-List.drop_eq_getElem_cons D,show l.drop q=(l.drop p).drop (q - p) by rw [List.drop_drop];congr 1;omega];exact (List.take_append_drop _ _).symm
 rw [numP_ref]
 conv=>lhs;rw [e]
 rw [cut_of h];rfl
theorem num_bad {α:Type} {R:Option α} {g:Int->α} {f:Nat} {o:Option Int} (D:R=(BY a).map g) (hF:BY a=Dj a f o) (h:o=none):R=none:=by
 rw [D,hF,h];unfold Dj
 split <;> rfl
def DigNo (d n:Int):Prop:=d<0\/9<d\/n< -922337203685477580\/(n=-922337203685477580/\8<d)
theorem refDig_no (h:k<a.length) (o:DigNo (((a[k]).toNat:Int) - 48) n):AC (a.drop k) n=none:=by
 rw [List.drop_eq_getElem_cons h];unfold AC;exact if_pos o
theorem refDig_yes (h:k<a.length) (o:¬ DigNo (((a[k]).toNat:Int) - 48) n):AC (a.drop k) n=AC (a.drop (k+1)) (10*n - (((a[k]).toNat:Int) - 48)):=by
 rw [List.drop_eq_getElem_cons h]
 conv=>lhs;unfold AC
 exact if_neg o
theorem num_fin {b:List UInt8} {v:Int} {R:Option (Int×List UInt8)} (o:R=(if Lib.itoa v=a then some v else none).map fun v=>(v,b)) (h:Lib.itoa v=a) (E:zu (·=r) w w') (G:b=l.drop q) (I:q<=l.length)
  (D:ze w' r 242 #[.string ⟨l.toArray⟩,.int .i64 q,.bool false]):NumQ r l s R w (.returned (.tuple #[.int .i64 v,.bool true])) w':=by
 rw [if_pos h,Option.map_some] at o;refine ⟨E,fun v' b' e=>?_,fun e=>by rw [o] at e;cases e⟩;rw [o] at e;injection e with e;injection e with e1 e2;subst e1 e2;exact ⟨rfl,q,⟨I,fun _=>G,fun h=>by cases h⟩,D⟩
theorem mNumber_calls (c:UInt8) (w:World) (h:Cg w r l s) (hl:l.length<=1000000000000):Calls Tryz.prog 210 #[.pointer (some ⟨r,0,none⟩),.int .u8 c.toNat] w (NumQ r l s (Cc c s) w):=by
 have HQ:=zh h;obtain ⟨p,hs,hb⟩:=h;have c0:=za.rule (hb.cell (k:=0) rfl);have c1:=za.rule (hb.cell (k:=1) rfl);have c2:=za.rule (hb.cell (k:=2) rfl);have HB:=zh hb;obtain ⟨sl,b⟩:=s;have hx:za w w:=za.refl w
 cases b with
 | true=>
  have J:Hid (Cc c (sl,true)=none):=by (show _=_);rfl
  clear hb c0 c1 hs
  go_enter Tryz.func210,Tryz.ntmps210
  go_wp2_with fail
  go_ret2
  exact DO J.out (zu.refl _ _) HQ.out
 | false=>
  have b0:=hs.ok rfl;have b6:=hs.le;dsimp only at b0 c2;have G:=zh b0;have D:Hid (Cc c (sl,false)=numP c sl):=by (show _=_);rfl
  obtain ⟨R,hR⟩:=zaI (Cc c (sl,false));rw [<-hR] at D⊢;clear hb hs b0 hR;have g0:IntKind.i64.wrap ((p:Int)+21)=(p:Int)+21:=by rw [zag];omega
  have f1:Hid (za w w):=za.refl w
  go_enter Tryz.func210,Tryz.ntmps210
  go_upto_block 0 with fail
  go_cut [6] (fun v wx=>∃q:Nat,v=.int .i64 (q:Int)/\p<=q/\q<=p+21/\q<=l.length/\Hid (c∉(l.drop p).take (q - p))/\Hid (∀h:q<l.length,q<p+21->l[q]=c)/\Hid (za w wx))
  case first=>
   go_wp2_with fail
   clear hx;go_loopw [6] (fun v wr=>∃q:Nat,v=.int .i64 (q:Int)/\p<=q/\q<=p+21/\q<=l.length/\Hid (c∉(l.drop p).take (q - p))/\Hid (za w wr)) (fun v _=>l.length - (intOf v).toNat)
   case atStart=>exact ⟨p,rfl,by omega,by omega,b6,by (show _∉_);simp,f1.out⟩
   case round=>
    obtain ⟨q,rfl,E,V,a0,o,hE⟩:=hrel;obtain ⟨wk,rfl⟩:∃W:World,W=wr:=⟨_,rfl⟩;have hx:za w wk:=hE.out;by_cases h1:q<l.length
    ·have d1:decide ((q:Int)<(l.length:Int))=true:=FB (by omega);have d2:decide (q<l.length)=true:=FB h1;by_cases h2:(q:Int)<(p:Int)+21
     ·have d3:decide ((q:Int)<(p:Int)+21)=true:=FB h2;have hI:∀h,(ByteArray.mk l.toArray)[q]'h=l[q]:=fun h=>get_at h1 h
      have f7:IntKind.i64.wrap ((q:Int)+1)=(q:Int)+1:=by rw [zag];omega
      by_cases h3:l[q]=c
      ·have d4:(((l[q]).toNat:Int)==(c.toNat:Int))=true:=by rw [h3];simp
       have Q:Hid (∀h:q<l.length,q<p+21->l[q]=c):=fun _ _=>h3
       go_wp2_with fail
       go_meet;exact ⟨q,rfl,E,V,a0,o,Q,hE⟩
      ·have d4:(((l[q]).toNat:Int)==(c.toNat:Int))=false:=by
        rw [FM];intro e;exact h3 (UInt8.toNat_inj.1 (by omega))
       have e8:Hid (c∉(l.drop p).take (q+1 - p)):=by
        show _∉_;rw [show q+1 - p=(q - p)+1 by omega,List.take_add_one,List.getElem?_drop,show p+(q - p)=q by omega,Fw h1];intro hm;rcases za0.1 hm with hm | hm
        ·exact o.out hm
        ·exact h3 (by rw [Option.toList_some] at hm;exact (zar.1 hm).symm)
       have hM:Hid (l.length - (q+1)<l.length - q):=by (show _<_);omega
       have e9:Hid (q+1<=p+21):=by (show _<=_);omega
       have f0:Hid (q+1<=l.length):=h1;clear h3
       go_wp2_with fail
       refine ⟨⟨q+1,by simp,by omega,e9.out,f0.out,e8,hE⟩,?_⟩;have e1:(intOf (Value.int IntKind.i64 ((q:Int)+1))).toNat=q+1:=by simp [intOf];try omega
       have e2:(intOf (Value.int IntKind.i64 (q:Int))).toNat=q:=by simp [intOf]
       rw [e1,e2];exact hM.out
     ·have d3:decide ((q:Int)<(p:Int)+21)=false:=FC h2;have Q:Hid (∀h:q<l.length,q<p+21->l[q]=c):=fun _ h=>absurd h (by omega)
      go_wp2_with fail
      go_meet;exact ⟨q,rfl,E,V,a0,o,Q,hE⟩
    ·have d1:decide ((q:Int)<(l.length:Int))=false:=FC (by omega);have d2:decide (q<l.length)=false:=FC h1;have Q:Hid (∀h:q<l.length,q<p+21->l[q]=c):=fun h _=>absurd h h1
     go_wp2_with fail
     go_meet;exact ⟨q,rfl,E,V,a0,o,Q,hE⟩
  case rest=>
   obtain ⟨q,rfl,E,V,a0,o,a4,hE⟩:=hcut;obtain ⟨wk,rfl⟩:∃W:World,W=wc:=⟨_,rfl⟩;clear hx;have hx:za w wk:=hE.out;have b3:Hid (Cg wk r l (sl,false)):=HQ.out.ext hx;rcases Nat.eq_or_lt_of_le a0 with h1 | h1
   ·have J:Hid (R=none):=by
     show _=_;rw [D.out,G.out];exact num_end E h1 o.out
    have d1:((q:Int)==(l.length:Int))=true:=by rw [h1];simp
    have d2:(q==l.length)=true:=by rw [h1];simp
    clear h1 o a4 D G
    go_wp2_with fail
    go_ret2
    exact DO J.out (zu.of_ext hE.out) b3.out
   ·have d1:((q:Int)==(l.length:Int))=false:=by rw [FM];omega
    have d2:(q==l.length)=false:=by rw [FM];omega
    have hI:∀h,(ByteArray.mk l.toArray)[q]'h=l[q]:=fun h=>get_at h1 h
    by_cases h3:l[q]=c
    ·have J:Hid (R=(BY ((l.drop p).take (q - p))).map fun v=>(v,l.drop (q+1))):=by
      show _=_;rw [D.out,G.out];exact num_at E h1 o.out h3
     have d4:(((l[q]).toNat:Int)==(c.toNat:Int))=true:=by rw [h3];simp
     obtain ⟨a,ha⟩:=zaI ((l.drop p).take (q - p));rw [<-ha] at J;have h8:a.length<=21:=by rw [ha,za3];omega
     have hS:(ByteArray.mk l.toArray).extract p q=⟨a.toArray⟩:=by rw [ext_mid l p q E,ha]
     have s1:(p:Int)<=(q:Int):=by omega
     have s2:(q:Int)<=(l.length:Int):=by omega
     clear o a4 D G ha
     go_upto_if 86 with fail
     go_cut [7] (fun v wx=>v=.string ⟨a.toArray⟩/\Hid (za w wx))
     case first=>
      go_quiet (fail)
      go_wp2_with fail
      go_meet;exact ⟨rfl,hE.out.drewN _⟩
     case rest=>
      obtain ⟨rfl,I⟩:=hcut;obtain ⟨wk7,rfl⟩:∃W:World,W=wc:=⟨_,rfl⟩;clear hx;have hx:za w wk7:=I.out;go_upto_region 10 with fail;go_cut [86] (fun v wx=>∃f:Nat,v=.bool (decide (f=1))/\f<=a.length/\f<=1/\Hid (BY a=Dj a f (AC (a.drop f) 0))/\wx=wk7)
      case first=>
       by_cases h0:0<a.length
       ·have hA:∀h,(ByteArray.mk a.toArray)[0]'h=a[0]:=fun h=>get_at h0 h
        by_cases h5:a[0]=45
        ·have d5:(((a[0]).toNat:Int)==45)=true:=by rw [h5];rfl
         have M:Hid (BY a=Dj a 1 (AC (a.drop 1) 0)):=num_neg h0 h5
         go_wp2_with fail
         go_meet;exact ⟨1,rfl,h0,by omega,M,rfl⟩
        ·have d5:(((a[0]).toNat:Int)==45)=false:=by
          rw [FM];intro e;exact h5 (UInt8.toNat_inj.1 (by rw [show (45:UInt8).toNat=45 from rfl];omega))
         have M:Hid (BY a=Dj a 0 (AC (a.drop 0) 0)):=num_pos (fun _=>h5)
         go_wp2_with fail
         go_meet;exact ⟨0,rfl,by omega,by omega,M,rfl⟩
       ·have M:Hid (BY a=Dj a 0 (AC (a.drop 0) 0)):=num_pos (fun h=>absurd h h0)
        go_wp2_with fail
        go_meet;exact ⟨0,rfl,by omega,by omega,M,rfl⟩
      case rest=>
       obtain ⟨f,rfl,f3,i0,M,rfl⟩:=hcut;obtain ⟨wk8,rfl⟩:∃W:World,W=wc:=⟨_,rfl⟩
       go_upto_if 86 with fail
       go_cut [8] (fun v wx=>v=.int .i64 (f:Int)/\wx=wk8)
       case first=>
        rcases (by omega:f=0\/f=1) with rfl | rfl
        ·go_wp2_with fail
         go_meet;exact ⟨rfl,rfl⟩
        ·go_wp2_with fail
         go_meet;exact ⟨rfl,rfl⟩
       case rest=>
        obtain ⟨rfl,rfl⟩:=hcut;obtain ⟨wk9,rfl⟩:∃W:World,W=wc:=⟨_,rfl⟩
        go_upto_block 0 with fail
        go_loopw [9,10] (fun vn vk wr=>∃(n:Int) (k:Nat),vn=.int .i64 n/\vk=.int .i64 (k:Int)/\f<=k/\k<=a.length/\n<=0/\-9223372036854775808<=n/\Hid (AC (a.drop k) n=AC (a.drop f) 0)/\wr=wk9) (fun _ vk _=>a.length - (intOf vk).toNat)
        case atStart=>exact ⟨0,f,rfl,rfl,Fy _,f3,by omega,by omega,by (show _=_);rfl,rfl⟩
        case round=>
         obtain ⟨n,k,rfl,rfl,i1,i2,f4,b5,HD,rfl⟩:=hrel;obtain ⟨wkA,rfl⟩:∃W:World,W=wr:=⟨_,rfl⟩;by_cases h6:k<a.length
         ·have d6:decide ((k:Int)<(a.length:Int))=true:=FB (by omega);have d7:decide (k<a.length)=true:=FB h6;have hA:∀h,(ByteArray.mk a.toArray)[k]'h=a[k]:=fun h=>get_at h6 h
          have i3:IntKind.i64.wrap ((k:Int)+1)=(k:Int)+1:=by rw [zag];omega
          have a8:Hid (DigNo (((a[k]).toNat:Int) - 48) n->AC (a.drop k) n=none):=refDig_no h6;have a9:Hid (¬ DigNo (((a[k]).toNat:Int) - 48) n->AC (a.drop k) n=AC (a.drop (k+1)) (10*n - (((a[k]).toNat:Int) - 48))):=refDig_yes h6;obtain ⟨u,hu⟩:∃u:Nat,u=(a[k]).toNat:=⟨_,rfl⟩;have f5:u<256:=by rw [hu];exact UInt8.toNat_lt _
          rw [<-hu] at a8 a9;have hA2:∀h,((ByteArray.mk a.toArray)[k]'h).toNat=u:=fun h=>by rw [hA h,hu]
          clear hA hu;obtain ⟨d,hd⟩:∃d:Int,d=(u:Int) - 48:=⟨_,rfl⟩;rw [<-hd] at a8 a9;have h9:d<=207:=by omega
          have HM:Hid (a.length - (k+1)<a.length - k):=by (show _<_);omega
          have b8:wrap64 ((u:Int) - 48)=d:=(IntWalk.wrap64_in _ (by omega)).trans hd.symm;have f8:wrap64 (u:Int)=(u:Int):=IntWalk.wrap64_in _ ⟨by omega,by omega⟩;clear hd f5;go_upto_region 16 with fail;go_cut [11] (fun v wx=>v=.int .i64 d/\wx=wkA)
          case first=>
           go_wp2_with fail
           go_meet;exact ⟨by rw [b8],rfl⟩
          case rest=>
           obtain ⟨rfl,rfl⟩:=hcut;obtain ⟨wkB,rfl⟩:∃W:World,W=wc:=⟨_,rfl⟩;clear hA2 f8 b8 d6 d7;by_cases U:DigNo d n
           ·have O:Hid (R=none):=num_bad J.out M.out (HD.out.symm.trans (a8.out U));go_upto_region 17 with fail;go_cut [116] (fun v wx=>v=.bool true/\wx=wkB)
            case first=>
             by_cases g1:d<0
             ·have e1:decide (d<0)=true:=FB g1
              go_wp2_with fail
              go_meet;exact ⟨rfl,rfl⟩
             ·have e1:decide (d<0)=false:=FC g1;by_cases g2:9<d
              ·have e2:decide (9<d)=true:=FB g2
               go_wp2_with fail
               go_meet;exact ⟨rfl,rfl⟩
              ·have e2:decide (9<d)=false:=FC g2;by_cases g3:n< -922337203685477580
               ·have e3:decide (n< -922337203685477580)=true:=FB g3
                go_wp2_with fail
                go_meet;exact ⟨rfl,rfl⟩
               ·have e3:decide (n< -922337203685477580)=false:=FC g3;have g4:n=-922337203685477580/\8<d:=by unfold DigNo at U;omega
                obtain ⟨rfl,g5⟩:=g4;have e5:decide (8<d)=true:=FB g5
                go_wp2_with fail
                go_meet;exact ⟨rfl,rfl⟩
            case rest=>
             obtain ⟨rfl,rfl⟩:=hcut;obtain ⟨wkC,rfl⟩:∃W:World,W=wc:=⟨_,rfl⟩
             go_wp2_with fail
             go_ret2
             exact DO O.out (zu.of_ext I.out) (HQ.out.ext I.out)
           ·have e6:Hid (AC (a.drop (k+1)) (10*n - d)=AC (a.drop f) 0):=(a9.out U).symm.trans HD.out;have hb:0<=d/\d<=9/\-922337203685477580<=n/\(n=-922337203685477580->d<=8):=by unfold DigNo at U;omega
            have g6:IntKind.i64.wrap (10*n)=10*n:=by rw [zag];omega
            have g7:IntKind.i64.wrap (10*n - d)=10*n - d:=by rw [zag];omega
            have b1:Hid (10*n - d<=0/\-9223372036854775808<=10*n - d):=by (show _/\_);omega
            go_upto_region 17 with fail;go_cut [116] (fun v wx=>v=.bool false/\wx=wkB)
            case first=>
             have e1:decide (d<0)=false:=FC (by omega);have e2:decide (9<d)=false:=FC (by omega);have e3:decide (n< -922337203685477580)=false:=FC (by omega);by_cases g4:n=-922337203685477580
             ·have e5:decide (8<d)=false:=FC (by omega);have e4:(n==-922337203685477580)=true:=by rw [g4];rfl
              clear g4
              go_wp2_with fail
              go_meet;exact ⟨rfl,rfl⟩
             ·have e4:(n==-922337203685477580)=false:=by rw [FM];exact g4
              go_wp2_with fail
              go_meet;exact ⟨rfl,rfl⟩
            case rest=>
             obtain ⟨rfl,rfl⟩:=hcut;obtain ⟨wkC,rfl⟩:∃W:World,W=wc:=⟨_,rfl⟩;clear hb U
             go_wp2_with fail
             refine ⟨⟨10*n - d,k+1,rfl,by simp,by omega,h6,b1.out.1,b1.out.2,e6,by simp⟩,?_⟩;have e1:(intOf (Value.int IntKind.i64 ((k:Int)+1))).toNat=k+1:=by simp [intOf];try omega
             have e2:(intOf (Value.int IntKind.i64 (k:Int))).toNat=k:=by simp [intOf]
             rw [e1,e2];exact HM.out
         ·have d6:decide ((k:Int)<(a.length:Int))=false:=FC (by omega);have d7:decide (k<a.length)=false:=FC h6
          have HO:Hid (AC (a.drop f) 0=some n):=by
           (show _=_)
           rw [<-HD.out,List.drop_of_length_le (by omega)];rfl
          clear HD;go_upto_region 20 with fail;go_cut [122] (fun v wx=>v=.bool (decide (f=0))/\wx=wkA)
          case first=>
           rcases (by omega:f=0\/f=1) with rfl | rfl
           ·go_wp2_with fail
            go_meet;simp
           ·go_wp2_with fail
            go_meet;simp
          case rest=>
           obtain ⟨rfl,rfl⟩:=hcut;obtain ⟨wkB,rfl⟩:∃W:World,W=wc:=⟨_,rfl⟩;clear d6 d7 h6
           go_upto_if 122 with fail
           go_cut [9] (fun v wx=>∃v':Int,v=.int .i64 v'/\Cz v'/\Hid (R=(if Lib.itoa v'=a then some v' else none).map fun v=>(v,l.drop (q+1)))/\wx=wkB)
           case first=>
            rcases (by omega:f=0\/f=1) with rfl | rfl
            ·by_cases g1:n=-9223372036854775808
             ·have O:Hid (R=none):=by
               (show _=_)
               rw [J.out,M.out,HO.out];unfold Dj;rw [if_neg (by decide),Option.bind_some,if_pos g1];rfl
              have f6:IntKind.i64.wrap (-n)=n:=by rw [zag];omega
              have e0:n≠0:=by omega
              have e1:(n==0)=false:=by rw [FM];omega
              clear g1
              go_wp2_with fail
              go_ret2
              exact DO O.out (zu.of_ext I.out) (HQ.out.ext I.out)
             ·have O:Hid (R=(if Lib.itoa (-n)=a then some (-n) else none).map fun v=>(v,l.drop (q+1))):=by
               (show _=_)
               rw [J.out,M.out,HO.out];unfold Dj;rw [if_neg (by decide),Option.bind_some,if_neg g1]
              have f6:IntKind.i64.wrap (-n)=-n:=by rw [zag];omega
              by_cases g2:n=0
              ·subst g2
               go_wp2_with fail
               go_meet;exact ⟨0,rfl,by constructor <;> omega,O,rfl⟩
              ·have e1:(n==-n)=false:=by rw [FM];omega
               go_wp2_with fail
               go_meet;exact ⟨-n,rfl,by constructor <;> omega,O,rfl⟩
            ·have O:Hid (R=(if Lib.itoa n=a then some n else none).map fun v=>(v,l.drop (q+1))):=by
              (show _=_)
              rw [J.out,M.out,HO.out];unfold Dj;rw [if_pos rfl,Option.bind_some]
             go_wp2_with fail
             go_meet;exact ⟨n,rfl,⟨b5,by omega⟩,O,rfl⟩
           case rest=>
            obtain ⟨v',rfl,b7,O,rfl⟩:=hcut;obtain ⟨wkC,rfl⟩:∃W:World,W=wc:=⟨_,rfl⟩;clear HO J M f4 b5
            go_wp2_with fail
            refine (mdecimal wkC b7).mono ?_;rintro e wD ⟨rfl,b4⟩;have a2:Hid (za w wD):=I.out.trans b4;clear b4 b7;by_cases g:Lib.itoa v'=a
            ·have a3:=HB.out.ext a2.out;have y1:=a3.cell (k:=1) rfl;have yf:∀j,wD.frozen? ⟨r,j,none⟩=false:=fun j=>a3.frozen j
             have f7:IntKind.i64.wrap ((q:Int)+1)=((q+1:Nat):Int):=by rw [zag];omega
             have d9:=zh a3;have e1:(Lib.itoa v'==a)=true:=by rw [g];exact beq_self_eq_true _
             have HG:=zh g;clear a3 g hx
             go_wp2_with fail
             go_ret2
             exact num_fin (q:=q+1) O.out HG.out (Cs (zu.of_ext a2.out) r 1 _ rfl) rfl h1 (d9.out.set (k:=1) _)
            ·have e1:(Lib.itoa v'==a)=false:=by rw [FM];exact g
             have HG:=zh g;clear g hx
             go_wp2_with fail
             go_ret2
             exact DO (by rw [O.out,if_neg HG.out];rfl) (zu.of_ext a2.out) (HQ.out.ext a2.out)
    ·have J:Hid (R=none):=by
      show _=_;rw [D.out,G.out]
      have:q=p+21:=by
       rcases Nat.eq_or_lt_of_le V with h | h
       ·exact h
       ·exact absurd (a4.out h1 h) h3
      exact num_far this h1 o.out h3
     have d4:(((l[q]).toNat:Int)==(c.toNat:Int))=false:=by
      rw [FM];intro e;exact h3 (UInt8.toNat_inj.1 (by omega))
     clear o a4 D G h3
     go_wp2_with fail
     go_ret2
     exact DO J.out (zu.of_ext hE.out) b3.out
theorem mRInt_calls (w:World) (h:Cg w r l s) (hl:l.length<=1000000000000):Calls Tryz.prog 159 #[.pointer (some ⟨r,0,none⟩)] w fun e w'=>e=.returned (.int .i64 (Br s).1)/\zu (·=r) w w'/\Cg w' r l (Br s).2:=by
 have E:Hid (Calls Tryz.prog 210 #[.pointer (some ⟨r,0,none⟩),.int .u8 59] w (NumQ r l s (Cc 59 s) w)):=mNumber_calls 59 w h hl;have D:Hid (∀o,o=Cc 59 s->Br s=match o with | some (v,b)=>(v,(b,false)) | none=>(0,([],true))):=fun o ho=>by rw [ho];rfl
 generalize Cc 59 s=o at E D;have D:=zh (D.out o rfl);generalize Br s=i at D;clear h hl
 go_enter Tryz.func159,Tryz.ntmps159
 cases o with
 | none=>
  go_wp2_with fail
  refine E.out.mono ?_;rintro e w1 ⟨G,-,hn⟩;obtain ⟨rfl,J⟩:=hn rfl;have V:=zh (Dz w1 J);have O:=zh G;clear G hn J E
  go_wp2_with fail
  refine V.out.mono ?_;rintro e w2 ⟨rfl,I,M⟩;have U:=zh M;have Q:Hid (zu (·=r) w w2):=O.out.tr I;clear I M V O
  go_wp2_with fail
  go_ret;have e:=D.out;subst e;exact ⟨rfl,Q.out,U.out⟩
 | some p=>
  obtain ⟨v,b⟩:=p
  go_wp2_with fail
  refine E.out.mono ?_;rintro e w1 ⟨G,hs,-⟩;obtain ⟨rfl,J⟩:=hs v b rfl;have HR:=zh J;have O:=zh G;clear G hs J E
  go_wp2_with fail
  go_ret;have e:=D.out;subst e;exact ⟨rfl,O.out,HR.out⟩
def Dh (b:UInt8) (s:Rd):Bool:=decide (AH s≠0) && (s.1.head?==some b)
def DD (b:UInt8) (s:Rd):Rd:=if Dh b s=true then (s.1.tail,false) else s
theorem mByte_calls (b:UInt8) (w:World) (h:Cg w r l s) (hl:l.length<=1000000000000):Calls Tryz.prog 213 #[.pointer (some ⟨r,0,none⟩),.int .u8 b.toNat] w fun e w'=>e=.returned (.bool (Dh b s))/\zu (·=r) w w'/\Cg w' r l (DD b s):=by
 have HQ:=zh h;have G:=zh (mLeft_calls w h hl);obtain ⟨p,hs,hb⟩:=h;by_cases h0:AH s=0
 ·have HB:Hid (Dh b s=false):=by (show _=_);simp [Dh,h0]
  have HS:Hid (DD b s=s):=by (show _=_);unfold DD;rw [HB.out];rfl
  rw [h0] at G;clear hs hb h0;generalize Dh b s=B at HB⊢;generalize DD b s=S at HS⊢
  go_enter Tryz.func213,Tryz.ntmps213
  go_wp2_with fail
  refine G.out.mono ?_;rintro e w1 ⟨rfl,hE⟩;have V:=zh hE;clear hE G
  go_wp2_with fail
  go_quiet (fail)
  go_wp2_with fail
  go_ret;have e:=HB.out;subst e;exact ⟨rfl,zu.of_ext (V.out.drewN _),by rw [HS.out];exact HQ.out.ext (V.out.drewN _)⟩
 ·obtain ⟨sl,bd⟩:=s
  cases bd with
  | true=>exact absurd rfl h0
  | false=>
   have O:=hs.ok rfl;dsimp only at O hb
   have hp:p<l.length:=by
    rcases zah p l.length with h | h
    ·exact h
    ·exact absurd (by rw [O,List.drop_of_length_le h];rfl) h0
   have o:=List.drop_eq_getElem_cons hp;have HT:Hid (sl.tail=l.drop (p+1)):=by (show _=_);rw [O,o];rfl
   have M:Hid (Dh b (sl,false)=decide (l[p]=b)):=by
    (show _=_)
    unfold Dh;rw [FB h0,Bool.true_and];show (sl.head?==some b)=_;rw [O,o,List.head?_cons];by_cases Q:l[p]=b
    ·simp [Q]
    ·simp [Q]
   have hI:∀h,(ByteArray.mk l.toArray)[p]'h=l[p]:=fun h=>get_at hp h
   have hI0:(0:Int)<=(p:Int):=by omega
   have a9:(p:Int)<(l.length:Int):=by omega
   have b3:IntKind.i64.wrap ((p:Int)+1)=((p+1:Nat):Int):=by rw [zag];omega
   have HB:=zh hb;obtain ⟨n,hn⟩:=zaI (AH (sl,false));rw [<-hn] at G h0;have b1:((n:Int)==0)=false:=by rw [FM];omega
   have b2:(n==0)=false:=by rw [FM];omega
   clear hn hs O o hb;have I:Hid (DD b (sl,false)=if Dh b (sl,false)=true then (sl.tail,false) else (sl,false)):=rfl;obtain ⟨B,hB⟩:=zaI (Dh b (sl,false));rw [<-hB] at M I⊢;generalize DD b (sl,false)=S at I⊢;have I:=I;clear hB
   go_enter Tryz.func213,Tryz.ntmps213
   go_wp2_with fail
   refine G.out.mono ?_;rintro e w1 ⟨rfl,hE⟩;have E:=HB.out.ext hE;have c0:=za.rule (E.cell (k:=0) rfl);have c1:=za.rule (E.cell (k:=1) rfl);have Q:za w1 w1:=za.refl _;have E:=zh E;have V:=zh hE;clear hE G;by_cases D:l[p]=b
   ·have e1:(((l[p]).toNat:Int)==(b.toNat:Int))=true:=by rw [D];simp
    have e2:(((l[p]).toNat:Int) != (b.toNat:Int))=false:=by rw [D];simp
    have U:Hid (B=true):=by (show _=_);rw [M.out];simp [D]
    clear D M;go_upto_region 2 with fail;go_cut [22] (fun v wx=>v=.bool false/\Hid (za w1 wx))
    case first=>
     go_quiet (fail)
     go_wp2_with fail
     go_meet;exact ⟨rfl,Q.drewN _⟩
    case rest=>
     obtain ⟨rfl,J⟩:=hcut;obtain ⟨wk,rfl⟩:∃W:World,W=wc:=⟨_,rfl⟩;clear Q;have Q:za w1 wk:=J.out;have yf:∀j,wk.frozen? ⟨r,j,none⟩=false:=fun j=>(E.out.ext Q).frozen j
     go_wp2_with fail
     go_ret;have e:=U.out;subst e;refine ⟨rfl,Cs (zu.of_ext (V.out.trans J.out)) r 1 _ rfl,?_⟩;rw [I.out,if_pos rfl];exact ⟨p+1,⟨by omega,fun _=>HT.out,fun h=>by cases h⟩,(E.out.ext J.out).set (k:=1) _⟩
   ·have e1:(((l[p]).toNat:Int)==(b.toNat:Int))=false:=by
     rw [FM];intro e;exact D (UInt8.toNat_inj.1 (by omega))
    have e2:(((l[p]).toNat:Int) != (b.toNat:Int))=true:=by rw [bne,e1];rfl
    have U:Hid (B=false):=by (show _=_);rw [M.out];simp [D]
    clear D M;go_upto_region 2 with fail;go_cut [22] (fun v wx=>v=.bool true/\Hid (za w1 wx))
    case first=>
     go_quiet (fail)
     go_wp2_with fail
     go_meet;exact ⟨rfl,Q.drewN _⟩
    case rest=>
     obtain ⟨rfl,J⟩:=hcut;obtain ⟨wk,rfl⟩:∃W:World,W=wc:=⟨_,rfl⟩;clear Q
     go_wp2_with fail
     go_ret;have e:=U.out;subst e;exact ⟨rfl,zu.of_ext (V.out.trans J.out),by rw [I.out,if_neg (by decide)];exact HQ.out.ext (V.out.trans J.out)⟩
theorem byteB_left (h:Dh b s=true):AH s≠0/\s.1.head?=some b:=by
 unfold Dh at h;rw [FK] at h;exact ⟨of_decide_eq_true h.1,by simpa using h.2⟩
theorem byteB_no (h:Dh b s=false):AH s=0\/s.1.head?≠some b:=by
 by_cases h0:AH s=0
 ·exact .inl h0
 ·refine .inr fun e=>?_
  unfold Dh at h;rw [FB h0,e] at h;simp at h
theorem Cg.blk (h:Cg w r l s):∃cs,ze w r 242 cs:=by
 obtain ⟨p,-,h⟩:=h;exact ⟨_,h⟩
theorem intsF_done (h:Bk l0.length (l0,false) []=Bk s.1.length s acc) (o:Dh 93 s=true):intsE (Bk l0.length (l0,false) [])=(acc,(s.1.tail,false)):=by
 obtain ⟨h0,h1⟩:=byteB_left o;rw [h,elsF_stop (.inr h1)];unfold intsE;rw [if_neg h0]
theorem intsF_fail (h:Bk l0.length (l0,false) []=Bk s.1.length s acc) (h0:AH s=0):intsE (Bk l0.length (l0,false) [])=([],([],true)):=by
 rw [h,elsF_stop (.inl h0)];unfold intsE;rw [if_pos h0]
def qdSize (r:Nat) (l:List UInt8) (w:World):Nat:=match w.cell? ⟨r,1,none⟩ with
 | some (.int _ p)=>l.length - p.toNat
 | _=>0
theorem qdSize_of (h:Cg w r l s) (D:s.2=false):qdSize r l w=s.1.length:=by
 obtain ⟨p,E,o⟩:=h;unfold qdSize;rw [o.cell (k:=1) rfl,E.ok D,zaC];simp
theorem mRInts_calls (w:World) (h:Cg w r l s) (hl:l.length<=1000000000000) (d8:s.1.length<=1000000000000):Calls Tryz.prog 158 #[.pointer (some ⟨r,0,none⟩)] w fun e w'=>∃v,e=.returned v/\zu (·=r) w w'/\Cg w' r l (AJ s).2/\zQ w' w.heap.size v (AJ s).1:=by
 have I:Hid (Calls Tryz.prog 213 #[.pointer (some ⟨r,0,none⟩),.int .u8 91] w fun e w'=>e=.returned (.bool (Dh 91 s))/\zu (·=r) w w'/\Cg w' r l (DD 91 s)):=mByte_calls 91 w h hl;have e2:Hid (r<w.heap.size):=by obtain ⟨cs,hb⟩:=h.blk;exact zd hb
 go_enter Tryz.func158,Tryz.ntmps158
 cases E:Dh 91 s with
 | false=>
  have o:DD 91 s=s:=by unfold DD;rw [E];rfl
  rw [E,o] at I;have hI:Hid (AJ s=([],([],true))):=by (show _=_);unfold AJ;rw [if_pos (byteB_no E)]
  clear h d8 E o
  go_wp2_with fail
  refine I.out.mono ?_;rintro e w1 ⟨rfl,Q,U⟩;have HF:=zh (Dz w1 U);have HC:=zh Q;clear Q U I
  go_wp2_with fail
  refine HF.out.mono ?_;rintro e w2 ⟨rfl,c9,d7⟩;have a1:=zh d7;have O:Hid (zu (·=r) w w2):=HC.out.tr c9;clear c9 d7 HF HC
  go_wp2_with fail
  go_ret;refine ⟨_,rfl,O.out,?_,?_⟩
  ·rw [hI.out];exact a1.out
  ·rw [hI.out];exact World.ownsRow_nil _ _ _ _
 | true=>
  have o:DD 91 s=(s.1.tail,false):=by unfold DD;rw [E];rfl
  rw [E,o] at I;obtain ⟨h0,h1⟩:=byteB_left E;obtain ⟨l0,a6⟩:=zaI s.1.tail
  have HI:Hid (AJ s=intsE (Bk l0.length (l0,false) [])):=by
   (show _=_)
   unfold AJ;rw [if_neg (fun q=>by rcases q with q | q;exact h0 q;exact q h1),a6]
  have f3:l0.length<=1000000000000:=by rw [a6,List.length_tail];omega
  rw [<-a6] at I;clear h d8 E o h0 h1 a6
  go_wp2_with fail
  refine I.out.mono ?_;rintro e w1 ⟨rfl,Q,U⟩;have HC:=zh Q;have HR:=zh U;clear Q U I
  go_upto_block 0 with fail
  go_wp2_with fail
  go_loopw [3] (fun v wr=>∃s' acc,Hid (Bk l0.length (l0,false) []=Bk s'.1.length s' acc)/\s'.2=false/\Hid (Cg wr r l s')/\Hid (zQ wr w.heap.size v acc)/\Hid (zu (·=r) w wr)/\s'.1.length+acc.length<=l0.length/\∃A c,v=.slice A acc.length c) (fun _ wr=>qdSize r l wr)
  case atStart=>exact ⟨(l0,false),[],rfl,rfl,HR.out,World.ownsRow_nil _ _ _ _,HC.out,by simp,none,0,rfl⟩
  case round=>
   obtain ⟨s',acc,V,J,a0,b0,a8,a2,A,c,rfl⟩:=hrel;obtain ⟨wk,rfl⟩:∃W:World,W=wr:=⟨_,rfl⟩;have M:Hid (Calls Tryz.prog 213 #[.pointer (some ⟨r,0,none⟩),.int .u8 93] wk fun e w'=>e=.returned (.bool (Dh 93 s'))/\zu (·=r) wk w'/\Cg w' r l (DD 93 s')):=mByte_calls 93 wk a0.out hl
   cases G:Dh 93 s' with
   | true=>
    have o:DD 93 s'=(s'.1.tail,false):=by unfold DD;rw [G];rfl
    rw [G,o] at M;have HN:Hid (AJ s=(acc,(s'.1.tail,false))):=HI.out.trans (intsF_done V.out G);clear G o HI V
    go_wp2_with fail
    refine M.out.mono ?_;rintro e w2 ⟨rfl,Q,U⟩;have O:Hid (zu (·=r) w w2):=a8.out.tr Q
    have a3:Hid (zQ w2 w.heap.size (.slice A acc.length c) acc):=by
     obtain ⟨cs,hb⟩:=a0.out.blk;exact Et b0.out hb (by decide) Q
    have a1:=zh U;clear Q U M
    go_wp2_with fail
    go_ret;refine ⟨_,rfl,O.out,?_,?_⟩
    ·rw [HN.out];exact a1.out
    ·rw [HN.out];exact a3.out
   | false=>
    have o:DD 93 s'=s':=by unfold DD;rw [G];rfl
    rw [G,o] at M;have b7:=zh G;clear G o
    go_wp2_with fail
    refine M.out.mono ?_;rintro e w2 ⟨rfl,Q,U⟩;have O:Hid (zu (·=r) w w2):=a8.out.tr Q
    have a3:Hid (zQ w2 w.heap.size (.slice A acc.length c) acc):=by
     obtain ⟨cs,hb⟩:=a0.out.blk;exact Et b0.out hb (by decide) Q
    have a1:=zh U;have b2:=zh (mRInt_calls w2 U hl);obtain ⟨y,hy⟩:=zaI (Br s');rw [<-hy] at b2;have HY:=zh hy;have e4:Hid (qdSize r l wk=s'.1.length):=qdSize_of a0.out J;have e9:acc.length<=1000000000000:=by omega
    have c0:Hid (s'.1.length+acc.length<=l0.length):=a2;clear Q U M hy b0 a8 a0 a2
    go_wp2_with fail
    refine b2.out.mono ?_;rintro e w3 ⟨rfl,b4,d5⟩
    have b1:Hid (zQ w3 w.heap.size (.slice A acc.length c) acc):=by
     obtain ⟨cs,hb⟩:=a1.out.blk;exact Et a3.out hb (by decide) b4
    have a9:=zh (O.out.tr b4);have c6:=zh d5;clear b4 d5 b2 a3 O;have a7:w.heap.size<=w3.heap.size:=a9.out.size
    go_wp2_with (at_builtin;refine AZ rfl _ _ rfl _ acc y.1 w.heap.size w3.heap.size 1 _ rfl rfl (b1.out.alloc _) ?d1 ?d2 ?d3 ?_)
    (try case d1=>exact zy _ _ _ (by simp))
    case d2=>(first | (simp;done) | (simp;omega) | omega)
    case d3=>omega
    intro v' w4 a5 d6 e5;have b3:Below w.heap.size w3 w4:=((Below.refl _ w3).alloc a7 _).grown d6.out (by simp;omega) (fun k hk=>(b1.out.lt k hk).1);have b8:Hid (zu (·=r) w w4):=chg_below a9.out b3;have a4:Hid (Cg w4 r l y.2):=c6.out.keep (b3.block r e2.out);have e0:=zh (mBad_calls w4 a4.out);obtain ⟨A4,c4,rfl,-⟩:=Bl a5;rw [FG,zak] at a5;have e3:=zh a5;clear a5 d6 e5 b3 a9 c6 b1 a7
    go_wp2_with fail
    refine e0.out.mono ?_;rintro e w5 ⟨rfl,rfl⟩
    cases D:y.2.2 with
    | true=>
     have HN:Hid (AJ s=([],([],true))/\y.2=([],true)):=by
      have h1:y.2=([],true):=by
       have h2:y.2.1=[]:=by rw [HY.out] at D⊢;exact intF_nil s' D
       rw [<-h2,<-D]
      refine ⟨?_,h1⟩;rw [HI.out];by_cases h0:AH s'=0
      ·exact intsF_fail V.out h0
      ·refine intsF_fail (acc:=acc++[y.1]) (s:=y.2) (V.out.trans ?_) (by rw [h1];rfl);rw [HY.out];exact elsF_step h0 (fun q=>by rcases byteB_no b7.out with h | h;exact h0 h;exact h q)
     clear D
     go_wp2_with fail
     go_ret;refine ⟨_,rfl,b8.out,?_,?_⟩
     ·rw [HN.out.1,<-HN.out.2];exact a4.out
     ·rw [HN.out.1];exact World.ownsRow_nil _ _ _ _
    | false=>
     have h0:AH s'≠0:=fun h=>by
      have h1:s'.1=[]:=by unfold AH at h;rw [J] at h;simpa using h
      have h2:(Br s').2.2=true:=by obtain ⟨a,b⟩:=s';dsimp only at h1 J;subst h1 J;rfl
      rw [<-HY.out,D] at h2;cases h2
     have b9:Hid (Bk l0.length (l0,false) []=Bk y.2.1.length y.2 (acc++[y.1])):=by
      refine V.out.trans ?_;rw [HY.out];exact elsF_step h0 (fun q=>by rcases byteB_no b7.out with h | h;exact h0 h;exact h q)
     have f0:y.2.1.length<s'.1.length:=by rw [HY.out] at D⊢;exact (intF_len s').2 D
     have c8:=zh D;have a2:=c0.out;clear D h0
     go_wp2_with fail
     go_roundw
     case rel=>exact ⟨y.2,acc++[y.1],b9,c8.out,a4,e3,b8,by simp;omega,A4,c4,by simp⟩
     case measure=>rw [qdSize_of a4.out c8.out,e4.out];omega
end
end Go.Proofs.YtjomnbdjajjgfaaGreatDoor
