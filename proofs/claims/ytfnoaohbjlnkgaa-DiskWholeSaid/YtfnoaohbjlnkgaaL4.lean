/-
  The plain law of DiskWhole. No program in it.
-/
import Derived.Test.YtfnoaohbjlnkgaaR8
namespace Go.Proofs.Ytfnoaohbjlnkgaa

/-- The choice that is made of a drawn byte. -/
def someC (ch : List UInt8) (i : Nat) : UInt8 := if i < ch.length then ch.getD i 0 % 2 else 0
def someL (ch : List UInt8) (n : Nat) : List UInt8 := (List.range n).map (someC ch)
@[simp] theorem someL_length (ch n) : (someL ch n).length = n := by simp [someL]
theorem someL_succ (ch n) : someL ch n ++ [someC ch n] = someL ch (n + 1) := by simp [someL, List.range_succ]
def allL (n : Nat) : List UInt8 := List.replicate n 1
@[simp] theorem allL_length (n) : (allL n).length = n := List.length_replicate
theorem allL_succ (n) : allL n ++ [1] = allL (n + 1) := (List.replicate_succ' (n := n)).symm
theorem someC_le (ch i) : someC ch i = 0 ∨ someC ch i = 1 := by
  unfold someC
  split
  · have h : (ch.getD i 0 % 2).toNat < 2 := by rw [UInt8.toNat_mod]; exact Nat.mod_lt _ (by decide)
    have : (ch.getD i 0 % 2).toNat = 0 ∨ (ch.getD i 0 % 2).toNat = 1 := by omega
    rcases this with h | h
    · exact .inl (UInt8.toNat_inj.1 h)
    · exact .inr (UInt8.toNat_inj.1 h)
  · exact .inl rfl
theorem someC_val {ch : List UInt8} {i : Nat} (h : i < ch.length) : ((ch.getD i 0).toNat : Int) % 2 = ((someC ch i).toNat : Int) := by
  unfold someC
  rw [if_pos h, UInt8.toNat_mod]
  rfl
theorem someC_zero {ch : List UInt8} {i : Nat} (h : ¬ i < ch.length) : someC ch i = 0 := if_neg h

theorem fate_zero (old new : List UInt8) : fate 0 old new = old := by simp [fate, fateN]
theorem fate_one {old new : List UInt8} (h1 : old.length = 512) (h2 : new.length = 512) : fate 1 old new = new := by
  simp [fate, fateN, ← h2, h1]

/-- Whether bytes are those that are durable, or those of one of the first k writes. -/
def fnd (B : List UInt8) (E : Dk) (i k : Nat) : Bool := decide (B = E.dur i) || (E.pend.take k).any fun p => decide ((p.1 : Int) = (i : Int)) && decide (B = p.2)
theorem fnd_zero (B E i) : fnd B E i 0 = decide (B = E.dur i) := by simp [fnd]
theorem fnd_succ {B : List UInt8} {E : Dk} {i k : Nat} {p : Nat × List UInt8} (h : E.pend[k]? = some p) : fnd B E i (k + 1) = (fnd B E i k || (decide ((p.1 : Int) = (i : Int)) && decide (B = p.2))) := by
  have hk := (List.getElem?_eq_some_iff.1 h).1
  have : E.pend.take (k + 1) = E.pend.take k ++ [p] := by
    rw [List.take_succ_eq_append_getElem hk]; congr 2; exact (List.getElem?_eq_some_iff.1 h).2
  simp only [fnd, this, List.any_append, List.any_cons, List.any_nil, Bool.or_false, Bool.or_assoc]

theorem back_some {E : Dk} (hw : E.wf) {cs : List UInt8} (hc : ∀ k, cs.getD k 0 = 0 ∨ cs.getD k 0 = 1) (i : Nat) : ∀ k, E.back cs k i = E.dur i ∨ ∃ p ∈ E.pend.take k, p.1 = i ∧ E.back cs k i = p.2 := by
  intro k
  induction k with
  | zero => exact .inl rfl
  | succ k ih =>
    rcases hp : E.pend[k]? with _ | p
    · have e : E.back cs (k + 1) = E.back cs k := by rw [Dk.back, hp]
      have ht : E.pend.take (k + 1) = E.pend.take k := by
        have := List.getElem?_eq_none_iff.1 hp
        rw [List.take_of_length_le (by omega), List.take_of_length_le (by omega)]
      rw [e, ht]
      exact ih
    · have hk := (List.getElem?_eq_some_iff.1 hp).1
      have ht : E.pend.take (k + 1) = E.pend.take k ++ [p] := by
        rw [List.take_succ_eq_append_getElem hk]; congr 2; exact (List.getElem?_eq_some_iff.1 hp).2
      have hpl := hw.pend p (List.mem_of_getElem? hp)
      have ih2 : E.back cs k i = E.dur i ∨ ∃ q ∈ E.pend.take (k + 1), q.1 = i ∧ E.back cs k i = q.2 := by
        rcases ih with h | ⟨q, hq, h1, h2⟩
        · exact .inl h
        · exact .inr ⟨q, by rw [ht]; exact List.mem_append_left _ hq, h1, h2⟩
      rw [Dk.back_succ hp]
      unfold upd
      by_cases he : i = p.1
      · rw [if_pos he]
        rcases hc k with h0 | h1
        · rw [h0, fate_zero, ← he]; exact ih2
        · rw [h1, fate_one (hw.back cs k p.1) hpl.2]
          exact .inr ⟨p, by rw [ht]; simp, he.symm, rfl⟩
      · rw [if_neg he]; exact ih2
theorem back_all {E : Dk} (hw : E.wf) {cs : List UInt8} {n : Nat} (hc : ∀ k, k < n → cs.getD k 0 = 1) : ∀ k, k ≤ n → E.back cs k = E.kept k := by
  intro k
  induction k with
  | zero => intro _; rw [Dk.kept_zero]; rfl
  | succ k ih =>
    intro hk
    rcases hp : E.pend[k]? with _ | p
    · have e : E.back cs (k + 1) = E.back cs k := by rw [Dk.back, hp]
      have := List.getElem?_eq_none_iff.1 hp
      have e2 : E.kept (k + 1) = E.kept k := by
        unfold Dk.kept
        rw [List.take_of_length_le (by omega), List.take_of_length_le (by omega)]
      rw [e, e2]
      exact ih (by omega)
    · have hpl := hw.pend p (List.mem_of_getElem? hp)
      rw [Dk.back_succ hp, Dk.kept_succ hp, hc k (by omega), fate_one (hw.back cs k p.1) hpl.2, ih (by omega)]
theorem back_nil (E : Dk) : ∀ k, E.back [] k = E.dur := by
  intro k
  induction k with
  | zero => rfl
  | succ k ih =>
    rcases hp : E.pend[k]? with _ | p
    · have e : E.back [] (k + 1) = E.back [] k := by rw [Dk.back, hp]
      rw [e, ih]
    · rw [Dk.back_succ hp, List.getD_nil, fate_zero, ih]
      funext j
      unfold upd
      split
      · rename_i h; rw [h]
      · rfl
theorem failed_wf {E : Dk} (h : E.wf) : E.failed.wf := ⟨h.n1, h.n2, h.dur, h.pend, h.plen, h.ops, h.lim1, h.lim2⟩
theorem whole_some {E : Dk} (hw : E.wf) (ch : List UInt8) (i : Nat) : fnd ((E.failed.restarted (someL ch E.pend.length)).vis i) E i E.pend.length = true := by
  have hc : ∀ k, (someL ch E.pend.length).getD k 0 = 0 ∨ (someL ch E.pend.length).getD k 0 = 1 := by
    intro k
    rw [List.getD_eq_getElem?_getD]
    by_cases hk : k < E.pend.length
    · have : (someL ch E.pend.length)[k]? = some (someC ch k) := by simp [someL, hk]
      rw [this]
      exact someC_le ch k
    · rw [List.getElem?_eq_none (by simp; omega)]
      exact .inl rfl
  have h : (E.failed.restarted (someL ch E.pend.length)).vis i = E.dur i ∨ ∃ p ∈ E.pend.take E.pend.length, p.1 = i ∧ (E.failed.restarted (someL ch E.pend.length)).vis i = p.2 := back_some (failed_wf hw) hc i E.pend.length
  unfold fnd
  rw [Bool.or_eq_true]
  rcases h with h | ⟨p, hp, h1, h2⟩
  · exact .inl (decide_eq_true h)
  · refine .inr (List.any_eq_true.2 ⟨p, hp, ?_⟩)
    rw [Bool.and_eq_true]
    exact ⟨decide_eq_true (by rw [h1]), decide_eq_true h2⟩
theorem whole_all {E : Dk} (hw : E.wf) (i : Nat) : (E.failed.restarted (allL E.pend.length)).vis i = E.vis i := by
  have h : E.failed.back (allL E.pend.length) E.pend.length = E.failed.kept E.pend.length := back_all (failed_wf hw) (n := E.pend.length) (fun k hk => by
    rw [List.getD_eq_getElem?_getD, allL, List.getElem?_replicate]; simp [hk]) _ (Nat.le_refl _)
  have h2 : (E.failed.restarted (allL E.pend.length)).vis i = E.failed.back (allL E.pend.length) E.pend.length i := rfl
  rw [h2, h]
  have h3 : E.failed.kept E.pend.length = E.kept E.pend.length := rfl
  rw [h3, Dk.kept_all]
theorem whole_nil (E : Dk) (i : Nat) : (E.failed.restarted []).vis i = E.dur i := by
  have h2 : (E.failed.restarted []).vis i = E.failed.back [] E.pend.length i := rfl
  rw [h2, back_nil]
  rfl
theorem b1s_snoc (l : List UInt8) (c : UInt8) : b1s l ++ b1s [c] = b1s (l ++ [c]) := by simp [b1s]
end Go.Proofs.Ytfnoaohbjlnkgaa
