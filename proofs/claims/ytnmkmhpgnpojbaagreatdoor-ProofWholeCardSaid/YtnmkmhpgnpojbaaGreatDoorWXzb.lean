import Derived.Test.YtnmkmhpgnpojbaaGreatDoorWXza
import Derived.Stop.LaidErr
import Derived.Lib.LaidTab
set_option linter.unusedVariables false
set_option linter.unusedSimpArgs false
set_option maxRecDepth 100000
set_option maxHeartbeats 16000000
namespace Go.Proofs.YtnmkmhpgnpojbaaGreatDoor
variable {base:Nat} {v0:Value} {W:World}
section
open Go.ChangeShapes Go.WideShapes Go.ChangeAt Go.RowKit
theorem vTab : Tryz.prog.globalNamed "internal/strconv.uint64pow10" = some 0 := by kernel_rfl
theorem vSyn : Tryz.prog.globalNamed "strconv.ErrSyntax" = some 2 := by kernel_rfl
theorem vRng : Tryz.prog.globalNamed "strconv.ErrRange" = some 3 := by kernel_rfl
theorem vtTab:(Tryz.prog.globals[0]?).map (·.type)=some 279:=by kernel_rfl
theorem vtSyn:(Tryz.prog.globals[2]?).map (·.type)=some 175:=by kernel_rfl
theorem vtRng:(Tryz.prog.globals[3]?).map (·.type)=some 175:=by kernel_rfl
theorem star4 : "*" ++ "errors.errorString" = "*errors.errorString" := by decide
theorem row314 (u : TypeId) (h : Tryz.prog.typeName? 3 u = some "*errors.errorString") : u = 314 :=
 typeName_ptr_named (nm := "errors.errorString") (by rw [star4]; kernel_rfl) (by kernel_rfl) (by decide) u (by rw [star4]; exact h)
theorem laid_tab:(Rows.laid_internal_strconv_uint64pow10:DataW Unit)=Lib.tabData .u64 Lib.pow10Tab:=by kernel_rfl
theorem varsOk_laid {a b: String × DataW Unit} (h : laidMet Tryz.prog [a, b, ("internal/strconv.uint64pow10", Rows.laid_internal_strconv_uint64pow10), ("strconv.ErrRange", Rows.laid_strconv_ErrRange), ("strconv.ErrSyntax", Rows.laid_strconv_ErrSyntax)] W) : zM W := by
 have h2:=h.tail.tail;obtain ⟨a0,s0,hv0,-,-,-⟩:=laid_sentinel h2.tail vRng vtRng Tryz.underlying175 row314 Tryz.underlying314 Tryz.underlying316 rfl rfl Tryz.underlying9 (by kernel_rfl) (by kernel_rfl);obtain ⟨a1,s1,hv1,-,-,-⟩:=laid_sentinel h2.tail.tail vSyn vtSyn Tryz.underlying175 row314 Tryz.underlying314 Tryz.underlying316 rfl rfl Tryz.underlying9 (by kernel_rfl) (by kernel_rfl);rw [laid_tab] at h2;exact ⟨Lib.tabIs_of_head vTab vtTab Tryz.underlying279 Tryz.underlying268 (by kernel_rfl) (by kernel_rfl) h2,⟨_,_,hv1⟩,⟨_,_,hv0⟩⟩
theorem intssArg {H:Type} {enc:TypeId×Value->H} {d0:DataW H} {p0:List MemPlace} (d:Value.okWide Tryz.prog W .any base 22 v0) (h0:DataW.Trod enc Tryz.prog W 0 (fun _=>true) true 22 v0 d0 p0):∃l,zU W (fun _=>True) v0 l/\l.length<=9223372036854775807/\∀a∈l,a.length<=9223372036854775807:=by
 obtain ⟨A,n,c,rfl⟩:=okWide_slice Tryz.underlying22 d;obtain ⟨fuel,h0⟩:=h0;obtain ⟨v,l,e0,h⟩:=intssOpen h0;have e1:Value.slice A n c=v:=by injection e0
 subst e1;exact ⟨l,h⟩
theorem proofWhole_walk {H:Type} {enc:TypeId×Value->H} {d0:DataW H} {p0:List MemPlace} (W:World) (o:zM W) (d:Value.okWide Tryz.prog W .any base 22 v0) (h0:DataW.Trod enc Tryz.prog W 0 (fun _=>true) true 22 v0 d0 p0):
  Calls Tryz.prog 7 #[v0] W fun e w'=>e=.returned (.bool true)/\Below W.heap.size W w':=by
 obtain ⟨ls,i0,i1,i2⟩:=intssArg d h0;exact ywhole_calls W o i0 i1 i2
end
end Go.Proofs.YtnmkmhpgnpojbaaGreatDoor
