/-
  The plain law of DiskLimit. No program in it.
-/
import Derived.Test.YtfnoaohbjlnkgaaR8
namespace Go.Proofs.Ytfnoaohbjlnkgaa

/-- What is known of a device with a limit of n after x operations. -/
structure LimI (n x : Nat) (D : Dk) : Prop where
  wf : D.wf
  n3 : D.n = 3
  ops : D.ops = min x n
  pl : D.pend.length ≤ x
  lo : x ≤ n → D.down = false ∧ D.lim = (n : Int) - x
  hi : n < x → D.down = true
/-- What is known of an operation. -/
structure LimS (n x : Nat) (D E : Dk) (c : Int) : Prop where
  inv : LimI n (x + 1) E
  lo : x < n → c = 0 ∧ E.down = false ∧ E.ops = x + 1
  hi : n ≤ x → c = 29 ∧ E.down = true ∧ E.pend.length = D.pend.length ∧ E.ops = n

theorem LimI.new (n : Nat) (hn : n < 256) : LimI n 0 { newD 3 with lim := max (n : Int) (-1) } := by
  have h := newD_wf (n := 3) (by omega) (by omega)
  have e : max (n : Int) (-1) = n := by omega
  exact ⟨⟨h.n1, h.n2, h.dur, h.pend, h.plen, h.ops, by show -1 ≤ max (n : Int) (-1); omega, by show max (n : Int) (-1) ≤ _; omega⟩, rfl, by show 0 = min 0 n; omega, Nat.le_refl 0, fun _ => ⟨rfl, by show max (n : Int) (-1) = _; omega⟩, fun h => by omega⟩

theorem LimI.oper {n x : Nat} {D : Dk} (h : LimI n x D) (hx : x ≤ n) (hn : n < 256) : (x < n → operC D = 0 ∧ LimI n (x + 1) D.operated ∧ D.operated.down = false ∧ D.operated.ops = x + 1 ∧ D.operated.pend.length ≤ x) ∧ (x = n → operC D = 29 ∧ LimI n (x + 1) D.operated ∧ D.operated.down = true ∧ D.operated.ops = n ∧ D.operated.pend = D.pend) := by
  obtain ⟨hd, hl⟩ := h.lo hx
  have ho := h.ops
  have hp := h.pl
  have hw := h.wf.operated (by omega)
  refine ⟨fun hlt => ?_, fun he => ?_⟩
  · have h0 : ¬ D.lim = 0 := by omega
    have e : D.operated = { D with lim := max (D.lim - 1) (-1), ops := D.ops + 1 } := by simp [Dk.operated, h0]
    refine ⟨by simp [operC, h0], ⟨hw, by rw [e]; exact h.n3, by rw [e]; show D.ops + 1 = _; omega, by rw [e]; show D.pend.length ≤ _; omega, fun _ => by rw [e]; exact ⟨hd, by show max (D.lim - 1) (-1) = _; omega⟩, fun h => by omega⟩, by rw [e]; exact hd, by rw [e]; show D.ops + 1 = _; omega, by rw [e]; exact hp⟩
  · have h0 : D.lim = 0 := by omega
    have e : D.operated = { D with down := true } := by simp [Dk.operated, h0]
    refine ⟨by simp [operC, h0], ⟨hw, by rw [e]; exact h.n3, by rw [e]; show D.ops = _; omega, by rw [e]; show D.pend.length ≤ _; omega, fun _ => by omega, fun _ => by rw [e]⟩, by rw [e], by rw [e]; show D.ops = _; omega, by rw [e]⟩

theorem LimI.flush {n x : Nat} {D : Dk} (h : LimI n x D) (hn : n < 256) : LimS n x D (flushD D) (flushC D) := by
  have ho := h.ops
  have hp := h.pl
  by_cases hx : x ≤ n
  · obtain ⟨hd, hl⟩ := h.lo hx
    by_cases hlt : x < n
    · obtain ⟨h1, h2, h3, h4, h5⟩ := (h.oper hx hn).1 hlt
      have e : flushD D = D.operated.flushed := by simp [flushD, hd, h1]
      have e2 : flushC D = 0 := by simp [flushC, hd, h1]
      rw [e, e2]
      refine ⟨⟨h2.wf.flushed, h2.n3, h2.ops, Nat.zero_le _, h2.lo, h2.hi⟩, fun _ => ⟨rfl, h3, h4⟩, fun h => by omega⟩
    · obtain ⟨h1, h2, h3, h4, h5⟩ := (h.oper hx hn).2 (by omega)
      have e : flushD D = D.operated := by simp [flushD, hd, h1]
      have e2 : flushC D = 29 := by simp [flushC, hd, h1]
      rw [e, e2]
      exact ⟨h2, fun h => by omega, fun _ => ⟨rfl, h3, by rw [h5], h4⟩⟩
  · have hd := h.hi (by omega)
    have e : flushD D = D := by simp [flushD, hd]
    have e2 : flushC D = 29 := by simp [flushC, hd]
    rw [e, e2]
    exact ⟨⟨h.wf, h.n3, by omega, by omega, fun _ => by omega, fun _ => hd⟩, fun h => by omega, fun _ => ⟨rfl, hd, rfl, by omega⟩⟩
theorem LimI.write {n x : Nat} {D : Dk} (h : LimI n x D) (hn : n < 256) (s : List UInt8) (hs : s.length = 512) : LimS n x D (writeD D ((x : Int) % 3) s) (writeC D ((x : Int) % 3) 512) := by
  have ho := h.ops
  have hp := h.pl
  have h3 := h.n3
  by_cases hx : x ≤ n
  · obtain ⟨hd, hl⟩ := h.lo hx
    have hr : reachC D ((x : Int) % 3) = 0 := by simp [reachC, hd]; omega
    by_cases hlt : x < n
    · obtain ⟨h1, h2, h3, h4, h5⟩ := (h.oper hx hn).1 hlt
      have e : writeD D ((x : Int) % 3) s = D.operated.wrote ((x : Int) % 3).toNat s := by simp [writeD, hr, hs, h1]
      have e2 : writeC D ((x : Int) % 3) 512 = 0 := by simp [writeC, hr, h1]
      rw [e, e2]
      refine ⟨⟨h2.wf.wrote (by rw [h2.n3]; omega) hs (by have := h2.pl; have := h.wf.plen; have := h2.ops; omega), h2.n3, h2.ops, ?_, h2.lo, h2.hi⟩, fun _ => ⟨rfl, h3, h4⟩, fun h => by omega⟩
      show (D.operated.pend ++ [_]).length ≤ _
      simp only [List.length_append, List.length_singleton]
      omega
    · obtain ⟨h1, h2, h3, h4, h5⟩ := (h.oper hx hn).2 (by omega)
      have e : writeD D ((x : Int) % 3) s = D.operated := by simp [writeD, hr, hs, h1]
      have e2 : writeC D ((x : Int) % 3) 512 = 29 := by simp [writeC, hr, h1]
      rw [e, e2]
      exact ⟨h2, fun h => by omega, fun _ => ⟨rfl, h3, by rw [h5], h4⟩⟩
  · have hd := h.hi (by omega)
    have hr : reachC D ((x : Int) % 3) = 29 := by simp [reachC, hd]
    have e : writeD D ((x : Int) % 3) s = D := by simp [writeD, hr]
    have e2 : writeC D ((x : Int) % 3) 512 = 29 := by simp [writeC, hr]
    rw [e, e2]
    exact ⟨⟨h.wf, h.n3, by omega, by omega, fun _ => by omega, fun _ => hd⟩, fun h => by omega, fun _ => ⟨rfl, hd, rfl, by omega⟩⟩
end Go.Proofs.Ytfnoaohbjlnkgaa
