/-
  What is proved: BtreeLoads returns true at every input, and its arguments read as before. No conditions.
-/
import Derived.Test.YtbhladkbnleeoaaP5
namespace Go.Proofs.Ytbhladkbnleeoaa
open Go.ChangeShapes Go.WideShapes Go.ChangeAt Go.RowKit

set_option maxRecDepth 100000 in
theorem btreeLoads_lifted (os : Os) (started : os.Started) (H : Type) (enc : TypeId × Value → H) :
    ReturnsInHanded {} Try.checked os 5 .any (Rows.btreeLoadsSpec.pre6 enc Try.prog Try.f5 Rows.btreeLoadsRow.domain false) (Rows.btreeLoadsSpec.post enc Try.prog Try.f5 false true false false) := by
  refine returnsInHanded_of_change (C := Try.checked) own started (by kernel_rfl) Try.func5
    (ChangeSpec.witness6 (enc := enc) (C := Try.checked) false ⟨#[], #[.slice none 0 0, .int .i64 0], []⟩ 8 (by kernel_rfl) (by kernel_rfl) (by kernel_rfl) (by kernel_rfl)) ?_
  intro W base args ds gs before hval0 hW hcnd _
  have hval : ∀ (j : Nat) t v, Try.f5.params[j]? = some t → args[j]? = some v → Value.okWide Try.prog W .any base t v := hval0
  have hW' := hW
  obtain ⟨p, q, hA0, hV, rfl, hfz, hnd⟩ := hW
  have hA : DataW.TrodAll enc Try.prog W 0 (fun _ => true) true Try.f5.params.toList args.toList ds p := hA0
  rw [Try.params5] at hA hval
  obtain ⟨v0, vs0, d0, ds0, p0, q0, hargs, rfl, rfl, h0, r0⟩ := trodAll_cons hA
  obtain ⟨v1, vs1, d1, ds1, p1, q1, rfl, rfl, rfl, h1, r1⟩ := trodAll_cons r0
  obtain ⟨rfl, rfl, rfl⟩ := trodAll_nil r1
  obtain rfl : args = #[v0, v1] := by cases args; simp_all
  obtain ⟨rfl, rfl⟩ := trodVars_none hV
  have k0 := h0
  obtain ⟨fu0, hf0⟩ := h0
  obtain ⟨b0, cap0, l0, ecs0, hl0, hm0, hr0, ho0⟩ := open_ops hf0
  have ev0 := slice_value Try.underlying22 (hval 0 22 v0 rfl rfl) ecs0
  simp only [maxLen] at hm0
  obtain ⟨a1, rfl, rfl, rfl, w1⟩ := open_int Try.underlying3 (hval 1 3 v1 rfl rfl) h1
  clear hA0 hval0
  simp only [List.append_nil] at hW'
  have hcalls := (loads_any b0 cap0 l0 (by omega) ho0 a1 (i64_wf w1).1 (i64_wf w1).2).calls W (roOld W) (Stars.old hr0 trivial) (roOld_sub W)
  rw [← ev0] at hcalls
  refine Calls.mono hcalls ?_
  rintro e W' ⟨_, h', _, rfl, _, _, hfr⟩
  refine ⟨_, rfl, _, _, _, [], (p0 ++ ([] ++ [])), [], hW', (trodAll_cons_mk (shut_bool Try.underlying4 _) trodAll_mk0), ?_, rfl,
    World.keptBut_mono (fun _ h => h.elim) hfr.old, fun h => by cases h⟩
  exact (trodAll_cons_mk (Below.trod laid_ (by kernel_rfl) (of_decide_eq_true (by kernel_rfl)) k0 hfr.below (fun x hx => hW'.lt x (by simp [hx]))) (trodAll_cons_mk (shut_int Try.underlying3 w1) trodAll_mk0))

theorem btreeLoads_holds : Rows.BtreeLoadsSaid :=
  OpenClaim.holds_of_wide 5 Try.f5 rfl rfl rfl rfl rfl rfl rfl ⟨rfl, rfl, rfl, rfl, rfl⟩ rfl rfl rfl rfl rfl (by kernel_rfl) Try.func5 (by kernel_rfl)
    (of_decide_eq_true (by kernel_rfl)) (by unfold Func.isWrapper; first | (rw [if_pos (by decide +kernel)]; kernel_rfl) | (rw [if_neg (by decide +kernel)]; exact ⟨rfl, rfl⟩))
    (fun os started H enc _ => btreeLoads_lifted os started H enc)
#print axioms btreeLoads_holds
end Go.Proofs.Ytbhladkbnleeoaa
