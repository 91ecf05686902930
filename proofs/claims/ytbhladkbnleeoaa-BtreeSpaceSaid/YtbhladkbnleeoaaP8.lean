/-
  What is proved: BtreeSpace returns true at every input, and its arguments read as before. No conditions.
-/
import Derived.Test.YtbhladkbnleeoaaP5
namespace Go.Proofs.Ytbhladkbnleeoaa
open Go.ChangeShapes Go.WideShapes Go.ChangeAt Go.RowKit

set_option maxRecDepth 100000 in
theorem btreeSpace_lifted (os : Os) (started : os.Started) (H : Type) (enc : TypeId × Value → H) :
    ReturnsInHanded {} Try.checked os 7 .any (Rows.btreeSpaceSpec.pre6 enc Try.prog Try.f7 Rows.btreeSpaceRow.domain false) (Rows.btreeSpaceSpec.post enc Try.prog Try.f7 false true false false) := by
  refine returnsInHanded_of_change (C := Try.checked) own started (by kernel_rfl) Try.func7
    (ChangeSpec.witness6 (enc := enc) (C := Try.checked) false ⟨#[], #[.int .u8 0, .slice none 0 0], []⟩ 8 (by kernel_rfl) (by kernel_rfl) (by kernel_rfl) (by kernel_rfl)) ?_
  intro W base args ds gs before hval0 hW hcnd _
  have hval : ∀ (j : Nat) t v, Try.f7.params[j]? = some t → args[j]? = some v → Value.okWide Try.prog W .any base t v := hval0
  have hW' := hW
  obtain ⟨p, q, hA0, hV, rfl, hfz, hnd⟩ := hW
  have hA : DataW.TrodAll enc Try.prog W 0 (fun _ => true) true Try.f7.params.toList args.toList ds p := hA0
  rw [Try.params7] at hA hval
  obtain ⟨v0, vs0, d0, ds0, p0, q0, hargs, rfl, rfl, h0, r0⟩ := trodAll_cons hA
  obtain ⟨v1, vs1, d1, ds1, p1, q1, rfl, rfl, rfl, h1, r1⟩ := trodAll_cons r0
  obtain ⟨rfl, rfl, rfl⟩ := trodAll_nil r1
  obtain rfl : args = #[v0, v1] := by cases args; simp_all
  obtain ⟨rfl, rfl⟩ := trodVars_none hV
  obtain ⟨a0, rfl, rfl, rfl, w0⟩ := open_int Try.underlying5 (hval 0 5 v0 rfl rfl) h0
  obtain ⟨c0, e0⟩ := u8_wf w0
  have k1 := h1
  obtain ⟨fu1, hf1⟩ := h1
  obtain ⟨b1, cap1, l1, ecs1, hl1, hm1, hr1, ho1⟩ := open_ops hf1
  have ev1 := slice_value Try.underlying22 (hval 1 22 v1 rfl rfl) ecs1
  simp only [maxLen] at hm1
  clear hA0 hval0
  simp only [List.append_nil] at hW'
  have hcalls := (space_any c0 b1 cap1 l1 (by omega) ho1).calls W (roOld W) (Stars.old hr1 trivial) (roOld_sub W)
  rw [← e0] at hcalls
  rw [← ev1] at hcalls
  refine Calls.mono hcalls ?_
  rintro e W' ⟨_, h', _, rfl, _, _, hfr⟩
  refine ⟨_, rfl, _, _, _, [], ([] ++ (p1 ++ [])), [], hW', (trodAll_cons_mk (shut_bool Try.underlying4 _) trodAll_mk0), ?_, rfl,
    World.keptBut_mono (fun _ h => h.elim) hfr.old, fun h => by cases h⟩
  exact (trodAll_cons_mk (shut_int Try.underlying5 w0) (trodAll_cons_mk (Below.trod laid_ (by kernel_rfl) (of_decide_eq_true (by kernel_rfl)) k1 hfr.below (fun x hx => hW'.lt x (by simp [hx]))) trodAll_mk0))

theorem btreeSpace_holds : Rows.BtreeSpaceSaid :=
  OpenClaim.holds_of_wide 7 Try.f7 rfl rfl rfl rfl rfl rfl rfl ⟨rfl, rfl, rfl, rfl, rfl⟩ rfl rfl rfl rfl rfl (by kernel_rfl) Try.func7 (by kernel_rfl)
    (of_decide_eq_true (by kernel_rfl)) (by unfold Func.isWrapper; first | (rw [if_pos (by decide +kernel)]; kernel_rfl) | (rw [if_neg (by decide +kernel)]; exact ⟨rfl, rfl⟩))
    (fun os started H enc _ => btreeSpace_lifted os started H enc)
#print axioms btreeSpace_holds
end Go.Proofs.Ytbhladkbnleeoaa
