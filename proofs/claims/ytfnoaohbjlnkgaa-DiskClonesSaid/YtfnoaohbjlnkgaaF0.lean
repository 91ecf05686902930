/-
  The frame of a row: what a contract says of the world as it was.
-/
import Derived.Test.YtfnoaohbjlnkgaaB3
import Derived.Test.YtfnoaohbjlnkgaaRows
import Derived.WalkKit
import Derived.ProofKit
import Derived.OpenShut
namespace Go.Proofs.Ytfnoaohbjlnkgaa
open Go.ChangeShapes Go.WideShapes Go.ChangeAt Go.RowKit

theorem own : ownKnob Try.prog.godebug = none := by kernel_rfl

theorem laid_ : laidOutB Try.prog = true := by kernel_rfl
theorem Stars.none : Stars [] (fun _ => none) := trivial
theorem Sub.none {w : World} : Sub (fun _ => none) w := fun _ _ _ h => by cases h
theorem Fr.kept {w w' : World} {h' : Frag} (f : Fr (fun _ => none) w h' w') : w.keptBut w' (fun _ => False) :=
  have r := World.keptBut_refl w (fun _ => False)
  ⟨f.os.trans r.1, f.output.trans r.2.1, fun i hi => by
    have e := f.keep i hi fun ⟨_, e⟩ => by cases e
    rw [e]
    exact r.2.2 i hi⟩
theorem u8_wf {a : Int} (h : (Lit.int .u8 a).wf = true) : ∃ c : UInt8, a = (c.toNat : Int) := by
  have h2 : 0 ≤ a ∧ a ≤ 255 := by
    have := h
    have m0 : IntKind.u8.min = 0 := by decide
    have m1 : IntKind.u8.max = 255 := by decide
    simp [Lit.wf, m0, m1] at this
    omega
  refine ⟨UInt8.ofNat a.toNat, ?_⟩
  rw [UInt8.toNat_ofNat']
  omega

end Go.Proofs.Ytfnoaohbjlnkgaa
