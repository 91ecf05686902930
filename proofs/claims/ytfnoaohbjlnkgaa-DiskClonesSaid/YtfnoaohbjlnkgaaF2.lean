/-
  Arguments that are slices of bytes or of operations.
-/
import Derived.Test.YtfnoaohbjlnkgaaF1
namespace Go.Proofs.Ytfnoaohbjlnkgaa
open Go.ChangeShapes Go.WideShapes Go.ChangeAt Go.RowKit

theorem i64_wf {a : Int} (h : (Lit.int .i64 a).wf = true) : -9223372036854775808 ≤ a ∧ a ≤ 9223372036854775807 := by
  have m0 : IntKind.i64.min = -9223372036854775808 := by decide
  have m1 : IntKind.i64.max = 9223372036854775807 := by decide
  simp [Lit.wf, m0, m1] at h
  omega
theorem b1s_of : ∀ (xs : List (List Value)), (∀ u ∈ xs, ∃ c : UInt8, u = [.int .u8 (c.toNat : Int)]) → ∃ l : List UInt8, xs = b1s l := by
  intro xs
  induction xs with
  | nil => intro _; exact ⟨[], rfl⟩
  | cons u xs ih =>
    intro h
    obtain ⟨c, rfl⟩ := h u (List.mem_cons_self ..)
    obtain ⟨l, rfl⟩ := ih fun v hv => h v (List.mem_cons_of_mem _ hv)
    exact ⟨c :: l, rfl⟩
theorem bools_of : ∀ (xs : List (List Value)), (∀ u ∈ xs, ∃ b : Bool, u = [.bool b]) → ∃ l : List Bool, xs = l.map fun b => [Value.bool b] := by
  intro xs
  induction xs with
  | nil => intro _; exact ⟨[], rfl⟩
  | cons u xs ih =>
    intro h
    obtain ⟨c, rfl⟩ := h u (List.mem_cons_self ..)
    obtain ⟨l, rfl⟩ := ih fun v hv => h v (List.mem_cons_of_mem _ hv)
    exact ⟨c :: l, rfl⟩

section
variable {H : Type} {enc : TypeId × Value → H} {W : World}
theorem open_bytes {fuel : Nat} {cs : List Value} {x : DataW H × List MemPlace} (h : DataW.trod enc Try.prog W 0 (fun _ => true) true fuel 28 cs = some x) :
    ∃ (a : Option Addr) (cap : Nat) (l : List UInt8), cs = [.slice a l.length cap] ∧ l.length ≤ cap ∧ cap ≤ maxLen ∧ rowR a 1 (b1s l) (roOld W) := by
  obtain ⟨a, n, cap, xs, rfl, hn, h1, h2, hr, m, hx⟩ := open_rows (s := 1) Try.underlying28 (by kernel_rfl) (by decide) h
  obtain ⟨l, rfl⟩ := b1s_of xs fun u hu => by
    obtain ⟨y, hy⟩ := hx u hu
    obtain ⟨z, rfl, _, wz⟩ := DataW.trod_int Try.underlying5 hy
    obtain ⟨c, rfl⟩ := u8_wf wz
    exact ⟨c, rfl⟩
  rw [b1s_length] at hn
  subst hn
  exact ⟨a, cap, l, rfl, h1, h2, hr⟩

theorem open_bools {fuel : Nat} {cs : List Value} {x : DataW H × List MemPlace} (h : DataW.trod enc Try.prog W 0 (fun _ => true) true fuel 36 cs = some x) :
    ∃ (a : Option Addr) (cap : Nat) (l : List Bool), cs = [.slice a l.length cap] ∧ l.length ≤ cap ∧ cap ≤ maxLen ∧ rowR a 1 (l.map fun b => [Value.bool b]) (roOld W) := by
  obtain ⟨a, n, cap, xs, rfl, hn, h1, h2, hr, m, hx⟩ := open_rows (s := 1) Try.underlying36 (by kernel_rfl) (by decide) h
  obtain ⟨l, rfl⟩ := bools_of xs fun u hu => by
    obtain ⟨y, hy⟩ := hx u hu
    obtain ⟨z, rfl, _⟩ := DataW.trod_bool Try.underlying4 hy
    exact ⟨z, rfl⟩
  rw [List.length_map] at hn
  subst hn
  exact ⟨a, cap, l, rfl, h1, h2, hr⟩

set_option maxRecDepth 100000 in
theorem open_op {fuel : Nat} {u : List Value} {x : DataW H × List MemPlace} (h : DataW.trod enc Try.prog W 0 (fun _ => true) true fuel 58 u = some x) : ∃ o : OpV, u = opC o ∧ o.ok ∧ rowR o.ca 1 (b1s o.ch) (roOld W) := by
  obtain ⟨ys, n, _, _, hl, hlen, hf⟩ := DataW.trod_struct Try.underlying58 h
  have hl5 : u.length = 5 := hl.trans (by kernel_rfl)
  have c1 : Try.prog.cellsOf 5 = 1 := by kernel_rfl
  have c2 : Try.prog.cellsOf 3 = 1 := by kernel_rfl
  have c3 : Try.prog.cellsOf 28 = 1 := by kernel_rfl
  match u, hl5 with
  | [u0, u1, u2, u3, u4], _ =>
    match ys, hlen with
    | [y0, y1, y2, y3, y4], _ =>
      have f0 : DataW.trod enc Try.prog W 0 (fun _ => true) true n 5 (([u0, u1, u2, u3, u4].drop 0).take (Try.prog.cellsOf 5)) = some y0 := hf 0 _ rfl
      rw [c1] at f0
      have f1 : DataW.trod enc Try.prog W 0 (fun _ => true) true n 3 (([u0, u1, u2, u3, u4].drop 1).take (Try.prog.cellsOf 3)) = some y1 := hf 1 _ rfl
      rw [c2] at f1
      have f2 : DataW.trod enc Try.prog W 0 (fun _ => true) true n 3 (([u0, u1, u2, u3, u4].drop 2).take (Try.prog.cellsOf 3)) = some y2 := hf 2 _ rfl
      rw [c2] at f2
      have f3 : DataW.trod enc Try.prog W 0 (fun _ => true) true n 5 (([u0, u1, u2, u3, u4].drop 3).take (Try.prog.cellsOf 5)) = some y3 := hf 3 _ rfl
      rw [c1] at f3
      have f4 : DataW.trod enc Try.prog W 0 (fun _ => true) true n 28 (([u0, u1, u2, u3, u4].drop 4).take (Try.prog.cellsOf 28)) = some y4 := hf 4 _ rfl
      rw [c3] at f4
      obtain ⟨z0, e0, _, w0⟩ := DataW.trod_int Try.underlying5 f0
      obtain ⟨z1, e1, _, w1⟩ := DataW.trod_int Try.underlying3 f1
      obtain ⟨z2, e2, _, w2⟩ := DataW.trod_int Try.underlying3 f2
      obtain ⟨z3, e3, _, w3⟩ := DataW.trod_int Try.underlying5 f3
      obtain ⟨a, cap, l, e4, h1, h2, hr⟩ := open_bytes f4
      replace e0 : [u0] = _ := e0
      replace e1 : [u1] = _ := e1
      replace e2 : [u2] = _ := e2
      replace e3 : [u3] = _ := e3
      replace e4 : [u4] = _ := e4
      obtain ⟨k, rfl⟩ := u8_wf w0
      obtain ⟨f, rfl⟩ := u8_wf w3
      simp only [List.cons.injEq, and_true] at e0 e1 e2 e3 e4
      subst e0 e1 e2 e3 e4
      have hb := i64_wf w2
      simp only [maxLen] at h2
      exact ⟨⟨k, z1, z2, f, a, cap, l⟩, rfl, ⟨h1, hb.1, hb.2, by show l.length ≤ _; omega⟩, hr⟩

theorem ops_of : ∀ (xs : List (List Value)), (∀ u ∈ xs, ∃ o : OpV, u = opC o ∧ o.ok ∧ rowR o.ca 1 (b1s o.ch) (roOld W)) → ∃ l : List OpV, xs = l.map opC ∧ ∀ o ∈ l, o.ok ∧ rowR o.ca 1 (b1s o.ch) (roOld W) := by
  intro xs
  induction xs with
  | nil => intro _; exact ⟨[], rfl, fun o h => by cases h⟩
  | cons u xs ih =>
    intro h
    obtain ⟨o, rfl, hok, hr⟩ := h u (List.mem_cons_self ..)
    obtain ⟨l, rfl, hl⟩ := ih fun v hv => h v (List.mem_cons_of_mem _ hv)
    refine ⟨o :: l, rfl, fun p hp => ?_⟩
    rcases List.mem_cons.1 hp with rfl | hp
    · exact ⟨hok, hr⟩
    · exact hl p hp

theorem open_ops {fuel : Nat} {cs : List Value} {x : DataW H × List MemPlace} (h : DataW.trod enc Try.prog W 0 (fun _ => true) true fuel 47 cs = some x) :
    ∃ (a : Option Addr) (cap : Nat) (l : List OpV), cs = [.slice a l.length cap] ∧ l.length ≤ cap ∧ cap ≤ maxLen ∧ opsIn a l (roOld W) := by
  obtain ⟨a, n, cap, xs, rfl, hn, h1, h2, hr, m, hx⟩ := open_rows (s := 5) Try.underlying47 (by kernel_rfl) (by decide) h
  obtain ⟨l, rfl, hl⟩ := ops_of xs fun u hu => by
    obtain ⟨y, hy⟩ := hx u hu
    exact open_op hy
  rw [List.length_map] at hn
  subst hn
  exact ⟨a, cap, l, rfl, h1, h2, by unfold opsIn; exact ⟨hr, hl⟩⟩
end

/-- What an argument's value is whose cells are one slice. -/
theorem slice_value {P : Program} {w : World} {r : Reach} {base : Nat} {t e : TypeId} {v : Value} {a : Option Addr} {n cap : Nat} (ht : P.underlying t = some (.slice e)) (h : Value.okWide P w r base t v) (hc : v.cells.toList = [.slice a n cap]) : v = .slice a n cap := by
  obtain ⟨a', n', c', rfl⟩ := okWide_slice ht h
  simpa [Value.cells] using hc
end Go.Proofs.Ytfnoaohbjlnkgaa
