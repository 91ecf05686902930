/-
  Closed facts on the program (printed by vcg.py).
-/
import Derived.Test.YtfnoaohbjlnkgaaProg
import Derived.Test.YtfnoaohbjlnkgaaB3
import Derived.KernelRfl
namespace Go.Proofs.Ytfnoaohbjlnkgaa
theorem fld_81_0 : Fld Try.prog 81 0 0 := fun a w => by kernel_rfl
theorem fld_81_1 : Fld Try.prog 81 1 1 := fun a w => by kernel_rfl
theorem fld_81_2 : Fld Try.prog 81 2 2 := fun a w => by kernel_rfl
theorem fld_81_3 : Fld Try.prog 81 3 3 := fun a w => by kernel_rfl
theorem fld_81_4 : Fld Try.prog 81 4 4 := fun a w => by kernel_rfl
theorem fld_81_5 : Fld Try.prog 81 5 5 := fun a w => by kernel_rfl
theorem fld_86_0 : Fld Try.prog 86 0 0 := fun a w => by kernel_rfl
theorem fld_86_1 : Fld Try.prog 86 1 1 := fun a w => by kernel_rfl
theorem bld_81 : Bld Try.prog 81 [.int .i64 0, .map none, .slice none 0 0, .int .i64 0, .int .i64 0, .bool false] [(0, 1), (1, 1), (2, 1), (3, 1), (4, 1), (5, 1)] := Bld.mk Try.zeroValue81 rfl Try.runUnderlying81 (fun w => by kernel_rfl)
theorem elt_28 : Elt Try.prog 28 5 1 1 ([.int .u8 0]) := Elt.mk' Try.underlying28 (i := Try.t5) (v := .int .u8 0) (by kernel_rfl) (by kernel_rfl) (by kernel_rfl) (by kernel_rfl) (by kernel_rfl) (by simp) (by decide)
theorem mixed : Try.prog.follows .mixedOrders = true := by kernel_rfl
end Go.Proofs.Ytfnoaohbjlnkgaa
