/-
  Closed facts on the program (printed by vcg.py).
-/
import Derived.Test.YtfnoaohbjlnkgaaProg
import Derived.Test.YtfnoaohbjlnkgaaB4
import Derived.KernelRfl
namespace Go.Proofs.Ytfnoaohbjlnkgaa
theorem fld_51_0 : Fld Try.prog 51 0 0 := fun a w => by kernel_rfl
theorem fld_51_1 : Fld Try.prog 51 1 1 := fun a w => by kernel_rfl
theorem fld_51_2 : Fld Try.prog 51 2 2 := fun a w => by kernel_rfl
theorem fld_51_3 : Fld Try.prog 51 3 3 := fun a w => by kernel_rfl
theorem fld_51_4 : Fld Try.prog 51 4 4 := fun a w => by kernel_rfl
theorem fld_58_0 : Fld Try.prog 58 0 0 := fun a w => by kernel_rfl
theorem fld_58_1 : Fld Try.prog 58 1 1 := fun a w => by kernel_rfl
theorem fld_58_2 : Fld Try.prog 58 2 2 := fun a w => by kernel_rfl
theorem fld_58_3 : Fld Try.prog 58 3 3 := fun a w => by kernel_rfl
theorem fld_58_4 : Fld Try.prog 58 4 4 := fun a w => by kernel_rfl
theorem fld_65_0 : Fld Try.prog 65 0 0 := fun a w => by kernel_rfl
theorem fld_65_1 : Fld Try.prog 65 1 1 := fun a w => by kernel_rfl
theorem fld_74_0 : Fld Try.prog 74 0 0 := fun a w => by kernel_rfl
theorem fld_74_1 : Fld Try.prog 74 1 1 := fun a w => by kernel_rfl
theorem fld_81_0 : Fld Try.prog 81 0 0 := fun a w => by kernel_rfl
theorem fld_81_1 : Fld Try.prog 81 1 1 := fun a w => by kernel_rfl
theorem fld_81_2 : Fld Try.prog 81 2 2 := fun a w => by kernel_rfl
theorem fld_81_3 : Fld Try.prog 81 3 3 := fun a w => by kernel_rfl
theorem fld_81_4 : Fld Try.prog 81 4 4 := fun a w => by kernel_rfl
theorem fld_81_5 : Fld Try.prog 81 5 5 := fun a w => by kernel_rfl
theorem fld_86_0 : Fld Try.prog 86 0 0 := fun a w => by kernel_rfl
theorem fld_86_1 : Fld Try.prog 86 1 1 := fun a w => by kernel_rfl
theorem bld_51 : Bld Try.prog 51 [.slice none 0 0, .slice none 0 0, .int .i64 0, .bool false, .int .i64 0] [(0, 1), (1, 1), (2, 1), (3, 1), (4, 1)] := Bld.mk Try.zeroValue51 rfl Try.runUnderlying51 (fun w => by kernel_rfl)
theorem bld_65 : Bld Try.prog 65 [.int .i64 0, .string ⟨#[]⟩] [(0, 1), (1, 1)] := Bld.mk Try.zeroValue65 rfl Try.runUnderlying65 (fun w => by kernel_rfl)
theorem bld_74 : Bld Try.prog 74 [.int .i64 0, .slice none 0 0] [(0, 1), (1, 1)] := Bld.mk Try.zeroValue74 rfl Try.runUnderlying74 (fun w => by kernel_rfl)
theorem bld_81 : Bld Try.prog 81 [.int .i64 0, .map none, .slice none 0 0, .int .i64 0, .int .i64 0, .bool false] [(0, 1), (1, 1), (2, 1), (3, 1), (4, 1), (5, 1)] := Bld.mk Try.zeroValue81 rfl Try.runUnderlying81 (fun w => by kernel_rfl)
theorem elt_28 : Elt Try.prog 28 5 1 1 ([.int .u8 0]) := Elt.mk' Try.underlying28 (i := Try.t5) (v := .int .u8 0) (by kernel_rfl) (by kernel_rfl) (by kernel_rfl) (by kernel_rfl) (by kernel_rfl) (by simp) (by decide)
theorem elt_34 : Elt Try.prog 34 3 1 8 ([.int .i64 0]) := Elt.mk' Try.underlying34 (i := Try.t3) (v := .int .i64 0) (by kernel_rfl) (by kernel_rfl) (by kernel_rfl) (by kernel_rfl) (by kernel_rfl) (by simp) (by decide)
theorem elt_38 : Elt Try.prog 38 74 2 32 ([.int .i64 0] ++ [.slice none 0 0]) := Elt.mk' Try.underlying38 (i := Try.t74) (v := .agg ([.int .i64 0] ++ [.slice none 0 0] : List Value).toArray) (by kernel_rfl) (by kernel_rfl) (by kernel_rfl) (by kernel_rfl) (by kernel_rfl) (by simp) (by decide)
theorem elt_48 : Elt Try.prog 48 9 1 16 ([.string ⟨#[]⟩]) := Elt.mk' Try.underlying48 (i := Try.t9) (v := .string ⟨#[]⟩) (by kernel_rfl) (by kernel_rfl) (by kernel_rfl) (by kernel_rfl) (by kernel_rfl) (by simp) (by decide)
theorem elt_49 : Elt Try.prog 49 65 2 24 ([.int .i64 0] ++ [.string ⟨#[]⟩]) := Elt.mk' Try.underlying49 (i := Try.t65) (v := .agg ([.int .i64 0] ++ [.string ⟨#[]⟩] : List Value).toArray) (by kernel_rfl) (by kernel_rfl) (by kernel_rfl) (by kernel_rfl) (by kernel_rfl) (by simp) (by decide)
theorem mixed : Try.prog.follows .mixedOrders = true := by kernel_rfl
end Go.Proofs.Ytfnoaohbjlnkgaa
