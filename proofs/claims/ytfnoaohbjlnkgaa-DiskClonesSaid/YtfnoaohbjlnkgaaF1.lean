/-
  Arguments that are slices: what the memory holds of them.
-/
import Derived.Test.YtfnoaohbjlnkgaaF0
import Derived.Test.YtfnoaohbjlnkgaaR0
import Derived.Deep.Slices
import Derived.Carry
namespace Go.Proofs.Ytfnoaohbjlnkgaa
open Go.ChangeShapes Go.WideShapes Go.ChangeAt Go.RowKit

/-- All that was there, to be read only. -/
def roOld (W : World) : Frag := fun b => (W.heap[b]?).map fun o => (false, o)
theorem roOld_sub (W : World) : Sub (roOld W) W := by
  intro b f o h
  unfold roOld at h
  cases e : W.heap[b]? with
  | none => rw [e] at h; cases h
  | some o' => rw [e] at h; cases h; rfl
theorem roOld_own {W : World} {b : Nat} : ¬ Own (roOld W) b := by
  rintro ⟨o, h⟩
  unfold roOld at h
  cases e : W.heap[b]? with
  | none => rw [e] at h; cases h
  | some o' => rw [e] at h; cases h
theorem roOld_cmp (W : World) : Cmp (roOld W) (roOld W) := by
  intro b
  unfold roOld
  cases e : W.heap[b]? with
  | none => exact .inl rfl
  | some o => exact .inr (.inr ⟨rfl, o, rfl⟩)
theorem roOld_jn (W : World) : jn (roOld W) (roOld W) = roOld W := by
  funext b
  unfold jn roOld
  cases W.heap[b]? <;> rfl
/-- What is only read may be had side by side. -/
theorem Stars.old {W : World} {A : Assn} {l : List Assn} (a : A (roOld W)) (s : Stars l (roOld W)) : Stars (A :: l) (roOld W) := ⟨roOld W, roOld W, a, s, roOld_cmp W, (roOld_jn W).symm⟩
theorem Fr.old {W W' : World} {h' : Frag} (f : Fr (roOld W) W h' W') : W.keptBut W' (fun _ => False) := by
  have r := World.keptBut_refl W (fun _ => False)
  exact ⟨f.os.trans r.1, f.output.trans r.2.1, fun i hi => by
    have e := f.keep i hi roOld_own
    rw [e]
    exact r.2.2 i hi⟩
theorem Fr.below {W W' : World} {h' : Frag} (f : Fr (roOld W) W h' W') : Below W.heap.size W W' := ⟨f.os, f.tape, f.output, f.size, fun k hk => f.keep k hk roOld_own⟩

section
variable {H : Type} {enc : TypeId × Value → H} {P : Program} {W : World}

/-- A slice's elements. -/
theorem open_rows {t e : TypeId} {s fuel : Nat} {cs : List Value} {x : DataW H × List MemPlace} (ht : P.underlying t = some (.slice e)) (hs : P.cellsOf e = s) (hs0 : 0 < s) (h : DataW.trod enc P W 0 (fun _ => true) true fuel t cs = some x) :
    ∃ (a : Option Addr) (n cap : Nat) (xs : List (List Value)), cs = [.slice a n cap] ∧ xs.length = n ∧ n ≤ cap ∧ cap ≤ maxLen ∧ rowR a s xs (roOld W) ∧ ∃ m, ∀ u ∈ xs, ∃ y, DataW.trod enc P W 0 (fun _ => true) true m e u = some y := by
  subst hs
  rcases Deep.open_slice ht h with ⟨rfl, _⟩ | ⟨a, len, cap, m, n, D, Pl, rfl, _, hl, hm, hmm, _, hel⟩
  · exact ⟨none, 0, 0, [], rfl, rfl, Nat.le_refl _, Nat.zero_le _, by unfold rowR; exact ⟨(by intro x hx; cases hx), .inl rfl⟩, 0, fun u hu => by cases hu⟩
  · have hmc : m = cap := by rw [hmm]; rfl
    obtain ⟨f, hf⟩ := Deep.choose_lt (n := len) (p := fun i (cs' : List Value) => W.cells? 0 (a.add (i * P.cellsOf e)) (P.cellsOf e) = some cs' ∧ DataW.trod enc P W 0 (fun _ => true) true n e cs' = some (D i, Pl i)) fun i hi => hel i (by omega)
    have hcell : ∀ i, i < len → ∀ j, j < P.cellsOf e → W.cell? (a.add (i * P.cellsOf e + j)) = (f i)[j]? := by
      intro i hi j hj
      have := (World.cells?_some (hf i hi).1).2.2 j hj
      rw [← this, Deep.add_add]
    have hlen : ∀ i, i < len → (f i).length = P.cellsOf e := fun i hi => (World.cells?_some (hf i hi).1).2.1
    have hflat : Flat (P.cellsOf e) ((List.range len).map f) := by
      intro x hx
      obtain ⟨i, hi, rfl⟩ := List.mem_map.1 hx
      exact hlen i (List.mem_range.1 hi)
    refine ⟨some a, len, cap, (List.range len).map f, rfl, by simp, hl, hm, ?_, n, ?_⟩
    · unfold rowR
      refine ⟨hflat, ?_⟩
      rcases Nat.eq_zero_or_pos len with h0 | h0
      · subst h0; exact .inl rfl
      · right
        have h00 := hcell 0 h0 0 hs0
        have hsome : ∃ v, W.cell? a = some v := by
          have : (f 0)[0]? = some ((f 0)[0]'(by rw [hlen 0 h0]; exact hs0)) := List.getElem?_eq_getElem _
          rw [this] at h00
          simp only [Nat.zero_mul, Nat.add_zero] at h00
          exact ⟨_, by simpa [Addr.add] using h00⟩
        obtain ⟨v, hv⟩ := hsome
        obtain ⟨C, te, fr, hb, hsp⟩ : ∃ C te fr, W.heap[a.block]? = some (.cells C te fr) ∧ a.spot = none := by
          unfold World.cell? at hv
          split at hv
          · rename_i c te fr hh
            refine ⟨c, te, fr, hh, ?_⟩
            split at hv
            · cases hv
            · rename_i hns
              cases hsp : a.spot with
              | none => rfl
              | some z => rw [hsp] at hns; exact absurd rfl hns
          · cases hv
        obtain ⟨b, off, sp⟩ := a
        dsimp only at hsp hb
        subst hsp
        refine ⟨b, off, C.toList, te, fr, rfl, by unfold roOld; rw [hb]; simp, ?_⟩
        apply List.ext_getElem?
        intro k
        by_cases hk : k < ((List.range len).map f).length * P.cellsOf e
        · rw [List.getElem?_take_of_lt hk, List.getElem?_drop]
          have hk' : k < len * P.cellsOf e := by simpa using hk
          have hq : k / P.cellsOf e < len := Nat.div_lt_of_lt_mul (by rw [Nat.mul_comm]; exact hk')
          have hr : k % P.cellsOf e < P.cellsOf e := Nat.mod_lt _ hs0
          have hkd : k = k / P.cellsOf e * P.cellsOf e + k % P.cellsOf e := by rw [Nat.mul_comm]; exact (Nat.div_add_mod k _).symm
          have hg : ((List.range len).map f)[k / P.cellsOf e]? = some (f (k / P.cellsOf e)) := by simp [hq]
          have h1 := hflat.get hg
          have h2 := hcell _ hq _ hr
          rw [← hkd, add_off, World.cell?, hb] at h2
          simp only [Option.isSome_none, Bool.false_eq_true, if_false] at h2
          rw [Array.getElem?_toList, h2, ← h1, List.getElem?_take_of_lt hr, List.getElem?_drop, ← hkd]
        · rw [List.getElem?_eq_none (by simp at hk ⊢; omega), List.getElem?_eq_none (by rw [hflat.length]; omega)]
    · intro u hu
      obtain ⟨i, hi, rfl⟩ := List.mem_map.1 hu
      exact ⟨_, (hf i (List.mem_range.1 hi)).2⟩
end

end Go.Proofs.Ytfnoaohbjlnkgaa
