/-
  What was flushed is durable: the plain law.
-/
import Derived.Test.YtfnoaohbjlnkgaaR0
namespace Go.Proofs.Ytfnoaohbjlnkgaa

/-- Nothing is under way at the block i, whose durable bytes are z. -/
def Quiet (i : Nat) (z : List UInt8) (D : Dk) : Prop := D.dur i = z ∧ ∀ p ∈ D.pend, p.1 ≠ i
theorem Quiet.vis {i z D} (q : Quiet i z D) : D.vis i = z := by rw [Dk.vis_none q.2]; exact q.1
theorem Quiet.operated {i z D} (q : Quiet i z D) : Quiet i z D.operated := ⟨by rw [operated_dur]; exact q.1, by rw [operated_pend]; exact q.2⟩
theorem Quiet.back {i z D} (q : Quiet i z D) (cs : List UInt8) : ∀ k, D.back cs k i = z := by
  intro k
  induction k with
  | zero => exact q.1
  | succ k ih =>
    rcases hp : D.pend[k]? with _ | p
    · simp only [Dk.back, hp]; exact ih
    · rw [Dk.back_succ hp]
      have := q.2 p (List.mem_of_getElem? hp)
      unfold upd
      rw [if_neg (fun h => this h.symm)]
      exact ih
theorem Quiet.restarted {i z D} (q : Quiet i z D) (cs : List UInt8) : Quiet i z (D.restarted cs) := ⟨q.back cs _, by intro p hp; cases hp⟩
theorem Quiet.flushed {i z D} (q : Quiet i z D) : Quiet i z D.flushed := ⟨q.vis, by intro p hp; cases hp⟩
theorem Quiet.write {i z D} (q : Quiet i z D) {j : Int} (h : j ≠ (i : Int)) (s : List UInt8) : Quiet i z (writeD D j s) := by
  unfold writeD
  split
  · exact q
  rename_i hr
  have hz := reach_zero (by simpa using hr)
  split
  · exact q
  split
  · exact q.operated
  · refine ⟨q.operated.1, ?_⟩
    intro p hp
    rcases List.mem_append.1 hp with hp | hp
    · exact q.operated.2 p hp
    · simp at hp; subst hp
      show j.toNat ≠ i
      omega
theorem Quiet.doD {i z D} (q : Quiet i z D) {o : OpV} (h : o.block ≠ (i : Int)) : Quiet i z (doD D o) := by
  unfold Proofs.Ytfnoaohbjlnkgaa.doD
  split
  · exact q.write h _
  split
  · unfold flushD
    split
    · exact q
    split
    · exact q.operated
    · exact q.operated.flushed
  split
  · exact q
  split
  · exact ⟨q.1, q.2⟩
  split
  · unfold backD
    split
    · exact q.restarted _
    · exact q
  split
  · exact ⟨q.1, q.2⟩
  split
  · unfold damD
    split
    · exact q
    · rename_i hc
      have hne : o.block.toNat ≠ i := by
        intro e
        apply hc
        unfold damC
        rw [if_pos]
        · decide
        · omega
      refine ⟨?_, ?_⟩
      · show upd D.dur o.block.toNat _ i = z
        unfold upd
        rw [if_neg (fun h => hne h.symm)]
        exact q.1
      · intro p hp
        obtain ⟨r, hr, rfl⟩ := List.mem_map.1 hp
        have := q.2 r hr
        split <;> exact this
  · exact q.write h _
theorem Quiet.play {i z D} (q : Quiet i z D) {l : List OpV} : ∀ k, (∀ o ∈ l.take k, o.block ≠ (i : Int)) → Quiet i z (playD D l k) := by
  intro k
  induction k with
  | zero => intro _; exact q
  | succ k ih =>
    intro h
    rcases ho : l[k]? with _ | o
    · have hk := List.getElem?_eq_none_iff.1 ho
      have e : playD D l (k + 1) = playD D l k := by unfold playD; rw [List.take_of_length_le (by omega), List.take_of_length_le hk]
      rw [e]
      exact ih fun o ho => h o (by rw [List.take_of_length_le (by omega)]; exact List.mem_of_mem_take ho)
    · have hk := (List.getElem?_eq_some_iff.1 ho).1
      have he := (List.getElem?_eq_some_iff.1 ho).2
      have et : l.take (k + 1) = l.take k ++ [o] := by rw [List.take_succ_eq_append_getElem hk, he]
      rw [playD_succ ho]
      exact (ih fun o ho => h o (by rw [et]; exact List.mem_append_left _ ho)).doD (h o (by rw [et]; simp))
theorem flushed_law (E : Dk) (l : List OpV) (k i : Nat) (cs : List UInt8) (h : ∀ o ∈ l.take k, o.block ≠ (i : Int)) : ((playD E.operated.flushed l k).failed.restarted cs).vis i = E.vis i := by
  have q : Quiet i (E.vis i) E.operated.flushed := ⟨by show E.operated.vis i = _; rw [operated_vis], by intro p hp; cases hp⟩
  have q2 : Quiet i (E.vis i) (playD E.operated.flushed l k).failed := ⟨(q.play k h).1, (q.play k h).2⟩
  exact (q2.restarted cs).vis

/-- The blocks that k operations have named. -/
structure Named (l : List OpV) (k : Nat) (mp : List (Int × Value)) : Prop where
  keys : KeysOk mp
  val : ∀ i v, mget mp i = some v → v = .bool true
  no : ∀ i, mget mp i = none → ∀ o ∈ l.take k, o.block ≠ i
theorem Named.nil (l) : Named l 0 [] := ⟨by simp [KeysOk], (by intro i v h; cases h), (by intro i _ o ho; simp at ho)⟩
theorem Named.step {l k mp o} (n : Named l k mp) (h : l[k]? = some o) : Named l (k + 1) (mput mp o.block (.bool true)) := by
  have hk := (List.getElem?_eq_some_iff.1 h).1
  have he := (List.getElem?_eq_some_iff.1 h).2
  have et : l.take (k + 1) = l.take k ++ [o] := by rw [List.take_succ_eq_append_getElem hk, he]
  refine ⟨n.keys.mput _ _, ?_, ?_⟩
  · intro i v hv
    rw [mget_mput] at hv
    split at hv
    · cases hv; rfl
    · exact n.val i v hv
  · intro i hi p hp
    rw [mget_mput] at hi
    split at hi
    · cases hi
    · rename_i hne
      rw [et] at hp
      rcases List.mem_append.1 hp with hp | hp
      · exact n.no i hi p hp
      · simp at hp; subst hp; exact fun e => hne e.symm
theorem Named.get {l k mp} (n : Named l k mp) (i : Int) : (mget mp i).getD (.bool false) = .bool (mget mp i).isSome := by
  cases h : mget mp i with
  | none => rfl
  | some v => rw [n.val i v h]; rfl
end Go.Proofs.Ytfnoaohbjlnkgaa
