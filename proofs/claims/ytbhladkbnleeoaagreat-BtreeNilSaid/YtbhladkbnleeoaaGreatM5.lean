/-
  What is proved: BtreeNil returns true at every input, and its arguments read as before. No conditions.
-/
import Derived.Test.YtbhladkbnleeoaaGreatM4
namespace Go.Proofs.YtbhladkbnleeoaaGreat
open Go.ChangeShapes Go.WideShapes Go.ChangeAt Go.RowKit

set_option maxRecDepth 100000 in
theorem btreeNil_lifted (os : Os) (started : os.Started) (H : Type) (enc : TypeId × Value → H) :
    ReturnsInHanded {} Tryz.checked os 4 .any (Rows.btreeNilSpec.pre6 enc Tryz.prog Tryz.f4 Rows.btreeNilRow.domain false) (Rows.btreeNilSpec.post enc Tryz.prog Tryz.f4 false true false false) := by
  refine returnsInHanded_of_change (C := Tryz.checked) own started (by kernel_rfl) Tryz.func4
    (ChangeSpec.witness6 (enc := enc) (C := Tryz.checked) false ⟨#[], #[(.agg (opR ⟨0, [], [], 0, 0, [], 0⟩).toArray)], []⟩ 8 (by kernel_rfl) (by kernel_rfl) (by kernel_rfl) (by kernel_rfl)) ?_
  intro W base args ds gs before hval0 hW hcnd _
  have hval : ∀ (j : Nat) t v, Tryz.f4.params[j]? = some t → args[j]? = some v → Value.okWide Tryz.prog W .any base t v := hval0
  have hW' := hW
  obtain ⟨p, q, hA0, hV, rfl, hfz, hnd⟩ := hW
  have hA : DataW.TrodAll enc Tryz.prog W 0 (fun _ => true) true Tryz.f4.params.toList args.toList ds p := hA0
  rw [Tryz.params4] at hA hval
  obtain ⟨v0, vs0, d0, ds0, p0, q0, hargs, rfl, rfl, h0, r0⟩ := trodAll_cons hA
  obtain ⟨rfl, rfl, rfl⟩ := trodAll_nil r0
  obtain rfl : args = #[v0] := by cases args; simp_all
  obtain ⟨rfl, rfl⟩ := trodVars_none hV
  have k0 := h0
  obtain ⟨fu0, hf0⟩ := h0
  obtain ⟨o0, eo0, ho0⟩ := open_op hf0
  have ev0 := op_value Tryz.underlying42 (hval 0 42 v0 rfl rfl) eo0
  clear hA0 hval0
  simp only [List.append_nil] at hW'
  have hcalls := (nil_any o0 ho0).calls W (roOld W) trivial (roOld_sub W)
  rw [← ev0] at hcalls
  refine Calls.mono hcalls ?_
  rintro e W' ⟨_, h', _, rfl, _, _, hfr⟩
  refine ⟨_, rfl, _, _, _, [], (p0 ++ []), [], hW', (trodAll_cons_mk (shut_bool Tryz.underlying4 _) trodAll_mk0), ?_, rfl,
    World.keptBut_mono (fun _ h => h.elim) hfr.old, fun h => by cases h⟩
  exact (trodAll_cons_mk (Below.trod laid_ (by kernel_rfl) (of_decide_eq_true (by kernel_rfl)) k0 hfr.below (fun x hx => hW'.lt x (by simp [hx]))) trodAll_mk0)

theorem btreeNil_holds : Rows.BtreeNilSaid :=
  OpenClaim.holds_of_wide 4 Tryz.f4 rfl rfl rfl rfl rfl rfl rfl ⟨rfl, rfl, rfl, rfl, rfl⟩ rfl rfl rfl rfl rfl (by kernel_rfl) Tryz.func4 (by kernel_rfl)
    (of_decide_eq_true (by kernel_rfl)) (by unfold Func.isWrapper; first | (rw [if_pos (by decide +kernel)]; kernel_rfl) | (rw [if_neg (by decide +kernel)]; exact ⟨rfl, rfl⟩))
    (fun os started H enc _ => btreeNil_lifted os started H enc)
#print axioms btreeNil_holds
end Go.Proofs.YtbhladkbnleeoaaGreat
