/-
  The device: what its memory holds.
-/
import Derived.Test.YtfnoaohbjlnkgaaB0
namespace Go.Proofs.Ytfnoaohbjlnkgaa

@[irreducible] def zb : List UInt8 := List.replicate 512 0
theorem bv_zb : bv zb = List.replicate 512 (.int .u8 0) := by
  unfold bv zb
  exact List.map_replicate
@[simp] theorem zb_length : zb.length = 512 := by unfold zb; exact List.length_replicate

theorem build0 : ∀ w, (Instr.build 84 #[]).run Try.prog w = .ok (.agg (bv zb).toArray) w := by
  rw [bv_zb]
  intro w
  kernel_rfl
theorem zero0 : ∀ w, (zeroValue 84).run Try.prog w = .ok (.agg (bv zb).toArray) w := by
  rw [bv_zb]
  intro w
  kernel_rfl
theorem zeroP : ∀ w, (zeroValue 86).run Try.prog w = .ok (.agg (.int .i64 0 :: bv zb).toArray) w := by
  rw [bv_zb]
  intro w
  kernel_rfl
theorem eqg0 : Try.prog.eqGuardType Try.prog.depth 84 = false := by kernel_rfl

/-- A device: its blocks, what is durable, the writes under way, the operations, the limit, and whether the power has failed. -/
structure Dk where
  n : Nat
  dur : Nat → List UInt8
  pend : List (Nat × List UInt8)
  ops : Nat
  lim : Int
  down : Bool

structure Dk.wf (D : Dk) : Prop where
  n1 : 1 ≤ D.n
  n2 : D.n ≤ 8192
  dur : ∀ i, (D.dur i).length = 512
  pend : ∀ p ∈ D.pend, p.1 < D.n ∧ p.2.length = 512
  plen : D.pend.length ≤ 1048576
  ops : D.ops ≤ 1099511627776
  lim1 : -1 ≤ D.lim
  lim2 : D.lim ≤ 9223372036854775807

/-- The entries of the map of durable blocks. -/
def DurOk (n : Nat) (dur : Nat → List UInt8) (mp : List (Int × Value)) : Prop :=
  KeysOk mp ∧ ∀ k : Int, mget mp k = if 0 ≤ k ∧ k.toNat < n ∧ dur k.toNat ≠ zb then some (.agg (bv (dur k.toNat)).toArray) else none

def pcell (p : Nat × List UInt8) : List Value := .int .i64 (p.1 : Int) :: bv p.2
theorem pcell_length {p : Nat × List UInt8} (h : p.2.length = 512) : (pcell p).length = 513 := by simp [pcell, h]
theorem pcell_one (p : Nat × List UInt8) : ∀ v ∈ pcell p, v.oneCell' = true := by
  intro v hv
  rcases List.mem_cons.1 hv with rfl | hv
  · rfl
  · exact bv_one _ v hv

def dcells (D : Dk) (m : Nat) (a : Option Addr) (cap : Nat) : List Value :=
  [.int .i64 D.n, .map (some m), .slice a D.pend.length cap, .int .i64 D.ops, .int .i64 D.lim, .bool D.down]

abbrev DX := Nat × List (Int × Value) × Option Addr × Nat
def dparts (d : Nat) (D : Dk) (x : DX) : List Assn :=
  [pts d (.cells [.int .i64 D.n, .map (some x.1), .slice x.2.2.1 D.pend.length x.2.2.2, .int .i64 D.ops, .int .i64 D.lim, .bool D.down].toArray 81), imap x.1 x.2.1, row x.2.2.1 x.2.2.2 86 513 (D.pend.map pcell)]

/-- The block d is a device in the state D. -/
@[irreducible] def dk (d : Nat) (D : Dk) : Assn := fun h => ∃ x : DX, (D.wf ∧ DurOk D.n D.dur x.2.1) ∧ Stars (dparts d D x) h

theorem dk_open {d : Nat} {D : Dk} (h : Frag) (a : dk d D h) : ∃ x : DX, (D.wf ∧ DurOk D.n D.dur x.2.1) ∧ Stars (dparts d D x) h := by
  unfold dk at a; exact a

theorem dk_shut {d : Nat} {D : Dk} {m : Nat} {mp : List (Int × Value)} {a : Option Addr} {cap : Nat} {l : List Assn} (hw : D.wf) (hd : DurOk D.n D.dur mp) {h : Frag}
    (s : Stars (pts d (.cells [.int .i64 D.n, .map (some m), .slice a D.pend.length cap, .int .i64 D.ops, .int .i64 D.lim, .bool D.down].toArray 81) :: imap m mp :: row a cap 86 513 (D.pend.map pcell) :: l) h) : Stars (dk d D :: l) h :=
  Stars.shut (L := dparts d D (m, mp, a, cap)) (fun h t => by unfold dk; exact ⟨_, ⟨hw, hd⟩, t⟩) s

/-- What is visible of a block, when z is durable. -/
def visL (i : Nat) : List UInt8 → List (Nat × List UInt8) → List UInt8
  | z, [] => z
  | z, p :: l => visL i (if p.1 = i then p.2 else z) l
@[simp] theorem visL_nil (i : Nat) (z : List UInt8) : visL i z [] = z := rfl
theorem visL_append (i : Nat) : ∀ (l m : List (Nat × List UInt8)) (z : List UInt8), visL i z (l ++ m) = visL i (visL i z l) m := by
  intro l
  induction l with
  | nil => intro m z; rfl
  | cons p l ih => intro m z; exact ih m _
theorem visL_skip (i : Nat) : ∀ (l : List (Nat × List UInt8)) (z : List UInt8), (∀ p ∈ l, p.1 ≠ i) → visL i z l = z := by
  intro l
  induction l with
  | nil => intro z _; rfl
  | cons p l ih =>
    intro z h
    show visL i (if p.1 = i then p.2 else z) l = z
    rw [if_neg (h p (List.mem_cons_self ..))]
    exact ih z fun q hq => h q (List.mem_cons_of_mem _ hq)
def Dk.vis (D : Dk) (i : Nat) : List UInt8 := visL i (D.dur i) D.pend

theorem drop_step {α : Type} {l : List α} {k : Nat} {p : α} (hk : k < l.length) (h : l[l.length - 1 - k]? = some p) : l.drop (l.length - (k + 1)) = p :: l.drop (l.length - k) := by
  have h1 : l.length - (k + 1) < l.length := by omega
  rw [List.drop_eq_getElem_cons h1]
  have e : l.length - 1 - k = l.length - (k + 1) := by omega
  rw [e, List.getElem?_eq_getElem h1] at h
  have h2 : l[l.length - (k + 1)] = p := Option.some.inj h
  rw [h2]
  congr 2
  omega
theorem Dk.vis_hit {D : Dk} {i k : Nat} {p : Nat × List UInt8} (hk : k < D.pend.length) (hp : D.pend[D.pend.length - 1 - k]? = some p) (hno : ∀ q ∈ D.pend.drop (D.pend.length - k), q.1 ≠ i) (h : p.1 = i) : D.vis i = p.2 := by
  unfold Dk.vis
  rw [← List.take_append_drop (D.pend.length - (k + 1)) D.pend, visL_append, drop_step hk hp]
  show visL i (if p.1 = i then p.2 else _) _ = p.2
  rw [if_pos h]
  exact visL_skip i _ _ hno
theorem Dk.vis_none {D : Dk} {i : Nat} (hno : ∀ q ∈ D.pend, q.1 ≠ i) : D.vis i = D.dur i := visL_skip i _ _ hno
theorem visL_length (i : Nat) : ∀ (l : List (Nat × List UInt8)) (z : List UInt8), z.length = 512 → (∀ p ∈ l, p.2.length = 512) → (visL i z l).length = 512 := by
  intro l
  induction l with
  | nil => intro z h _; exact h
  | cons p l ih =>
    intro z h hp
    refine ih _ ?_ fun q hq => hp q (List.mem_cons_of_mem _ hq)
    split
    · exact hp p (List.mem_cons_self ..)
    · exact h
theorem Dk.wf.vis {D : Dk} (h : D.wf) (i : Nat) : (D.vis i).length = 512 := visL_length i _ _ (h.dur i) fun p hp => (h.pend p hp).2
theorem dur_get {n : Nat} {dur : Nat → List UInt8} {mp : List (Int × Value)} (hd : DurOk n dur mp) {i : Nat} (hi : i < n) : (mget mp (i : Int)).getD (.agg (bv zb).toArray) = .agg (bv (dur i)).toArray := by
  rw [hd.2]
  by_cases h : dur i = zb
  · rw [if_neg (by simp [h]), h]; rfl
  · rw [if_pos ⟨by omega, by simpa using hi, by simpa using h⟩]; rfl

/-! ### what the operations do -/
def upd {α : Type} (f : Nat → α) (i : Nat) (v : α) : Nat → α := fun j => if j = i then v else f j
theorem dur_keep {n : Nat} {dur : Nat → List UInt8} {mp : List (Int × Value)} (hd : DurOk n dur mp) {i : Nat} (hi : i < n) (s : List UInt8) :
    DurOk n (upd dur i s) (if s = zb then mdel mp (i : Int) else mput mp (i : Int) (.agg (bv s).toArray)) := by
  split
  · rename_i h
    refine ⟨hd.1.mdel _, fun k => ?_⟩
    rw [mget_mdel _ hd.1, hd.2 k]
    by_cases hk : k = (i : Int)
    · subst hk
      rw [if_pos rfl, if_neg]
      rintro ⟨_, _, h3⟩
      apply h3
      show (if (i : Int).toNat = i then s else _) = zb
      rw [if_pos (by simp)]; exact h
    · rw [if_neg hk]
      by_cases h0 : 0 ≤ k
      · have : k.toNat ≠ i := by omega
        simp only [upd, this, if_false]
      · rw [if_neg (fun h => h0 h.1), if_neg (fun h => h0 h.1)]
  · rename_i h
    refine ⟨hd.1.mput _ _, fun k => ?_⟩
    rw [mget_mput, hd.2 k]
    by_cases hk : k = (i : Int)
    · subst hk
      have e : upd dur i s (i : Int).toNat = s := if_pos (by simp)
      rw [if_pos rfl, e, if_pos ⟨by omega, by simpa using hi, h⟩]
    · rw [if_neg hk]
      by_cases h0 : 0 ≤ k
      · have : k.toNat ≠ i := by omega
        simp only [upd, this, if_false]
      · rw [if_neg (fun h => h0 h.1), if_neg (fun h => h0 h.1)]

/-- What is durable when the first k writes have been kept. -/
def Dk.kept (D : Dk) (k : Nat) : Nat → List UInt8 := fun i => visL i (D.dur i) (D.pend.take k)
theorem Dk.kept_zero (D : Dk) : D.kept 0 = D.dur := by funext i; simp [Dk.kept, visL]
theorem Dk.kept_all (D : Dk) : D.kept D.pend.length = D.vis := by funext i; simp [Dk.kept, Dk.vis]
theorem Dk.kept_succ {D : Dk} {k : Nat} {p : Nat × List UInt8} (h : D.pend[k]? = some p) : D.kept (k + 1) = upd (D.kept k) p.1 p.2 := by
  funext i
  have hk := (List.getElem?_eq_some_iff.1 h).1
  have : D.pend.take (k + 1) = D.pend.take k ++ [p] := by
    rw [List.take_succ_eq_append_getElem hk]
    congr 2
    exact (List.getElem?_eq_some_iff.1 h).2
  simp only [Dk.kept, upd, this, visL_append, visL]
  by_cases e : p.1 = i
  · rw [if_pos e, if_pos e.symm]
  · rw [if_neg e, if_neg (fun h => e h.symm)]

/-- What a choice makes of a write. -/
def fateN (c : UInt8) : Nat := if c.toNat % 3 = 1 then 512 else if c.toNat % 3 = 2 then c.toNat / 3 % 17 * 32 else 0
def fate (c : UInt8) (old new : List UInt8) : List UInt8 := new.take (fateN c) ++ old.drop (fateN c)
theorem fateN_le (c : UInt8) : fateN c ≤ 512 := by unfold fateN; split <;> (try split) <;> omega
theorem fate_length {c : UInt8} {old new : List UInt8} (h1 : old.length = 512) (h2 : new.length = 512) : (fate c old new).length = 512 := by
  have := fateN_le c
  simp [fate, h1, h2]; omega
/-- What is durable when the power has come back, k writes having been looked at. -/
def Dk.back (D : Dk) (cs : List UInt8) : Nat → Nat → List UInt8
  | 0 => D.dur
  | k + 1 => match D.pend[k]? with
    | none => D.back cs k
    | some p => upd (D.back cs k) p.1 (fate (cs.getD k 0) (D.back cs k p.1) p.2)
theorem Dk.back_succ {D : Dk} {cs : List UInt8} {k : Nat} {p : Nat × List UInt8} (h : D.pend[k]? = some p) : D.back cs (k + 1) = upd (D.back cs k) p.1 (fate (cs.getD k 0) (D.back cs k p.1) p.2) := by
  rw [Dk.back, h]
theorem Dk.wf.back {D : Dk} (h : D.wf) (cs : List UInt8) (k i : Nat) : (D.back cs k i).length = 512 := by
  induction k generalizing i with
  | zero => exact h.dur i
  | succ k ih =>
    rcases hp : D.pend[k]? with _ | p
    · simp only [Dk.back, hp]; exact ih i
    · rw [Dk.back_succ hp]
      unfold upd
      split
      · exact fate_length (ih _) (h.pend p (List.mem_of_getElem? hp)).2
      · exact ih i

/-- The error with which a block cannot be reached. -/
def reachC (D : Dk) (i : Int) : Int := if D.down then 29 else if i < 0 ∨ (D.n : Int) ≤ i then 8 else 0
def Dk.operated (D : Dk) : Dk := if D.lim = 0 then { D with down := true } else { D with lim := max (D.lim - 1) (-1), ops := D.ops + 1 }
def operC (D : Dk) : Int := if D.lim = 0 then 29 else 0

theorem Dk.wf.operated {D : Dk} (h : D.wf) (ho : D.ops < 1099511627776) : D.operated.wf := by
  unfold Dk.operated
  have := h.lim1
  have := h.lim2
  have := h.ops
  split
  · exact ⟨h.n1, h.n2, h.dur, h.pend, h.plen, h.ops, h.lim1, h.lim2⟩
  · exact ⟨h.n1, h.n2, h.dur, h.pend, h.plen, by show D.ops + 1 ≤ _; omega, by show -1 ≤ max (D.lim - 1) (-1); omega, by show max (D.lim - 1) (-1) ≤ _; omega⟩

theorem oper_shut1 {d : Nat} {D : Dk} {m : Nat} {mp : List (Int × Value)} {a : Option Addr} {cap : Nat} {l : List Assn} (hw : D.wf) (hd : DurOk D.n D.dur mp) (hl : D.lim = 0) {h : Frag}
    (s : Stars (pts d (.cells [.int .i64 D.n, .map (some m), .slice a D.pend.length cap, .int .i64 D.ops, .int .i64 D.lim, .bool true].toArray 81) :: imap m mp :: row a cap 86 513 (D.pend.map pcell) :: l) h) : Stars (dk d D.operated :: l) h := by
  have e : D.operated = { D with down := true } := by simp [Dk.operated, hl]
  rw [e]
  exact dk_shut (D := { D with down := true }) ⟨hw.n1, hw.n2, hw.dur, hw.pend, hw.plen, hw.ops, hw.lim1, hw.lim2⟩ hd s
theorem oper_shut2 {d : Nat} {D : Dk} {m : Nat} {mp : List (Int × Value)} {a : Option Addr} {cap : Nat} {l : List Assn} (hw : D.wf) (hd : DurOk D.n D.dur mp) (ho : D.ops < 1099511627776) (hl : ¬ D.lim = 0) {h : Frag}
    (s : Stars (pts d (.cells [.int .i64 D.n, .map (some m), .slice a D.pend.length cap, .int .i64 ((D.ops : Int) + 1), .int .i64 (max (D.lim - 1) (-1)), .bool D.down].toArray 81) :: imap m mp :: row a cap 86 513 (D.pend.map pcell) :: l) h) : Stars (dk d D.operated :: l) h := by
  have hw' := hw.operated ho
  have e : D.operated = { D with lim := max (D.lim - 1) (-1), ops := D.ops + 1 } := by simp [Dk.operated, hl]
  rw [e] at hw' ⊢
  exact dk_shut (D := { D with lim := max (D.lim - 1) (-1), ops := D.ops + 1 }) hw' hd s

/-- Two devices are shut. -/
theorem dk_shut2 {d c : Nat} {D : Dk} {m m2 : Nat} {mp : List (Int × Value)} {a a2 : Option Addr} {cap cap2 : Nat} (hw : D.wf) (hd : DurOk D.n D.dur mp) {h : Frag}
    (s : Stars (dparts d D (m, mp, a, cap) ++ dparts c D (m2, mp, a2, cap2)) h) : Stars [dk c D, dk d D] h := by
  have s1 := dk_shut hw hd s
  exact dk_shut hw hd (Stars.perm (List.perm_append_comm (l₁ := [dk d D])) s1)
/-- A new device. -/
def newD (n : Nat) : Dk := ⟨n, fun _ => zb, [], 0, -1, false⟩
def newV (n : Int) (b : Nat) : Value := if 1 ≤ n ∧ n ≤ 8192 then .tuple #[.pointer (some ⟨b, 0, none⟩), .int .i64 0] else .tuple #[.pointer none, .int .i64 2]
theorem newD_wf {n : Nat} (h1 : 1 ≤ n) (h2 : n ≤ 8192) : (newD n).wf := ⟨h1, h2, fun _ => zb_length, (by intro p hp; cases hp), (by simp [newD]), (by simp [newD]), (by simp [newD]), (by simp [newD])⟩
theorem new_shut {b m : Nat} {n : Int} (h1 : 1 ≤ n) (h2 : n ≤ 8192) {h : Frag}
    (s : Stars [pts b (.cells [.int .i64 n, .map (some m), .slice none 0 0, .int .i64 0, .int .i64 (-1), .bool false].toArray 81), pts m (.map #[] 0)] h) : Stars [dk b (newD n.toNat)] h := by
  have hn : ((n.toNat : Nat) : Int) = n := by omega
  have s1 := imap_new m (Stars.swap s)
  have s2 := row_nil 86 513 s1
  refine dk_shut (D := newD n.toNat) (m := m) (mp := []) (a := none) (cap := 0) (newD_wf (by omega) (by omega)) ⟨by simp [KeysOk], fun k => ?_⟩ ?_
  · rw [if_neg]
    · rfl
    · rintro ⟨_, _, h3⟩
      exact h3 rfl
  · simp only [newD, List.length_nil, List.map_nil]
    rw [hn]
    refine Stars.perm ?_ s2
    exact (List.reverse_perm _).symm
theorem dk_wf {d : Nat} {D : Dk} {l : List Assn} {h : Frag} (s : Stars (dk d D :: l) h) : D.wf := by
  obtain ⟨h1, h2, p, _⟩ := s
  obtain ⟨x, hw, _⟩ := dk_open h1 p
  exact hw.1
theorem pend_one {l : List (Nat × List UInt8)} : ∀ u ∈ (l.map pcell).flatten, u.oneCell' = true := by
  intro u hu
  obtain ⟨x, hx, hu⟩ := List.mem_flatten.1 hu
  obtain ⟨p, _, rfl⟩ := List.mem_map.1 hx
  exact pcell_one p u hu
theorem reach_zero {D : Dk} {i : Int} (h : reachC D i = 0) : D.down = false ∧ 0 ≤ i ∧ i < D.n := by
  unfold reachC at h
  split at h
  · cases h
  · rename_i hd
    split at h
    · cases h
    · rename_i hi
      exact ⟨by simpa using hd, by omega, by omega⟩
/-- What Read returns. -/
def readB (D : Dk) (i : Int) : List UInt8 := if reachC D i = 0 then D.vis i.toNat else []
theorem reach0 {D : Dk} (h : D.wf) : reachC D 0 = if D.down then 29 else 0 := by
  have := h.n1
  unfold reachC
  split
  · rfl
  · rw [if_neg (by omega)]
/-- Write. -/
def writeC (D : Dk) (i : Int) (n : Nat) : Int := if reachC D i ≠ 0 then reachC D i else if n ≠ 512 then 2 else operC D
def Dk.wrote (D : Dk) (i : Nat) (s : List UInt8) : Dk := { D with pend := D.pend ++ [(i, s)] }
def writeD (D : Dk) (i : Int) (s : List UInt8) : Dk :=
  if reachC D i ≠ 0 then D else if s.length ≠ 512 then D else if operC D ≠ 0 then D.operated else D.operated.wrote i.toNat s
/-- Flush. -/
def flushC (D : Dk) : Int := if D.down then 29 else operC D
def Dk.flushed (D : Dk) : Dk := { D with dur := D.vis, pend := [] }
def flushD (D : Dk) : Dk := if D.down then D else if operC D ≠ 0 then D.operated else D.operated.flushed
/-- Restart. -/
def backC (D : Dk) : Int := if D.down then 0 else 10
def Dk.restarted (D : Dk) (cs : List UInt8) : Dk := { D with dur := D.back cs D.pend.length, pend := [], lim := -1, down := false }
def backD (D : Dk) (cs : List UInt8) : Dk := if D.down then D.restarted cs else D
@[simp] theorem operated_pend (D : Dk) : D.operated.pend = D.pend := by unfold Dk.operated; split <;> rfl
@[simp] theorem operated_n (D : Dk) : D.operated.n = D.n := by unfold Dk.operated; split <;> rfl
@[simp] theorem operated_dur (D : Dk) : D.operated.dur = D.dur := by unfold Dk.operated; split <;> rfl
theorem Dk.wf.wrote {D : Dk} (h : D.wf) {i : Nat} {s : List UInt8} (hi : i < D.n) (hs : s.length = 512) (hp : D.pend.length < 1048576) : (D.wrote i s).wf :=
  ⟨h.n1, h.n2, h.dur, by
    intro p hp
    rcases List.mem_append.1 hp with hp | hp
    · exact h.pend p hp
    · simp at hp; subst hp; exact ⟨hi, hs⟩, by show (D.pend ++ [(i, s)]).length ≤ _; simp; omega, h.ops, h.lim1, h.lim2⟩
theorem Dk.wf.flushed {D : Dk} (h : D.wf) : D.flushed.wf := ⟨h.n1, h.n2, h.vis, (by intro p hp; cases hp), (by simp [Dk.flushed]), h.ops, h.lim1, h.lim2⟩
theorem Dk.wf.restarted {D : Dk} (h : D.wf) (cs : List UInt8) : (D.restarted cs).wf := ⟨h.n1, h.n2, fun i => h.back cs _ i, (by intro p hp; cases hp), (by simp [Dk.restarted]), h.ops, (by simp [Dk.restarted]), (by simp [Dk.restarted])⟩
theorem write_shut {d i m : Nat} {E : Dk} {s : List UInt8} {mp : List (Int × Value)} {a : Option Addr} {cap : Nat} {l : List Assn} (hw : E.wf) (hd : DurOk E.n E.dur mp) (hi : i < E.n) (hs : s.length = 512) (hp : E.pend.length < 1048576) {h : Frag}
    (st : Stars (pts d (.cells [.int .i64 E.n, .map (some m), .slice a (E.pend.length + 1) cap, .int .i64 E.ops, .int .i64 E.lim, .bool E.down].toArray 81) :: imap m mp :: row a cap 86 513 (E.pend.map pcell ++ [.int .i64 (i : Int) :: bv s]) :: l) h) : Stars (dk d (E.wrote i s) :: l) h := by
  refine dk_shut (D := E.wrote i s) (m := m) (mp := mp) (a := a) (cap := cap) (hw.wrote hi hs hp) hd ?_
  have e1 : (E.wrote i s).pend.length = E.pend.length + 1 := by simp [Dk.wrote]
  have e2 : (E.wrote i s).pend.map pcell = E.pend.map pcell ++ [.int .i64 (i : Int) :: bv s] := by simp [Dk.wrote, pcell]
  rw [e1, e2]
  exact st
theorem flush_shut {d m : Nat} {E : Dk} {mp : List (Int × Value)} {l : List Assn} (hw : E.wf) (hd : DurOk E.n E.vis mp) {h : Frag}
    (st : Stars (pts d (.cells [.int .i64 E.n, .map (some m), .slice none 0 0, .int .i64 E.ops, .int .i64 E.lim, .bool E.down].toArray 81) :: imap m mp :: l) h) : Stars (dk d E.flushed :: l) h := by
  refine dk_shut (D := E.flushed) (m := m) (mp := mp) (a := none) (cap := 0) hw.flushed hd ?_
  have s1 := row_nil 86 513 st
  refine Stars.perm ?_ s1
  exact (List.Perm.swap _ _ _).trans (List.Perm.cons _ (List.Perm.swap _ _ _))
theorem back_shut {d m : Nat} {E : Dk} {cs : List UInt8} {mp : List (Int × Value)} {l : List Assn} (hw : E.wf) (hd : DurOk E.n (E.back cs E.pend.length) mp) {h : Frag}
    (st : Stars (pts d (.cells [.int .i64 E.n, .map (some m), .slice none 0 0, .int .i64 E.ops, .int .i64 (-1), .bool false].toArray 81) :: imap m mp :: l) h) : Stars (dk d (E.restarted cs) :: l) h := by
  refine dk_shut (D := E.restarted cs) (m := m) (mp := mp) (a := none) (cap := 0) (hw.restarted cs) hd ?_
  have s1 := row_nil 86 513 st
  refine Stars.perm ?_ s1
  exact (List.Perm.swap _ _ _).trans (List.Perm.cons _ (List.Perm.swap _ _ _))

/-- Damage. -/
def damC (D : Dk) (i j : Int) : Int := if i < 0 ∨ (D.n : Int) ≤ i then 8 else if j < 0 ∨ 512 ≤ j then 2 else 0
def Dk.damaged (D : Dk) (i j : Nat) (c : UInt8) : Dk := { D with dur := upd D.dur i (flipB (D.dur i) j c), pend := D.pend.map fun p => if p.1 = i then (p.1, flipB p.2 j c) else p }
def damD (D : Dk) (i j : Int) (c : UInt8) : Dk := if damC D i j ≠ 0 then D else D.damaged i.toNat j.toNat c
theorem Dk.wf.damaged {D : Dk} (h : D.wf) (i j : Nat) (c : UInt8) : (D.damaged i j c).wf := ⟨h.n1, h.n2, by
    intro k
    show (upd D.dur i (flipB (D.dur i) j c) k).length = 512
    unfold upd
    split
    · rw [flipB_length]; exact h.dur i
    · exact h.dur k, by
    intro p hp
    obtain ⟨q, hq, rfl⟩ := List.mem_map.1 hp
    have := h.pend q hq
    split
    · exact ⟨this.1, by rw [flipB_length]; exact this.2⟩
    · exact this, by show (D.pend.map _).length ≤ _; rw [List.length_map]; exact h.plen, h.ops, h.lim1, h.lim2⟩
/-- The writes, the first k of which have been damaged. -/
def damP (l : List (Nat × List UInt8)) (i j : Nat) (c : UInt8) (k : Nat) : List (Nat × List UInt8) := (l.take k).map (fun p => if p.1 = i then (p.1, flipB p.2 j c) else p) ++ l.drop k
@[simp] theorem damP_length (l i j c k) : (damP l i j c k).length = l.length := by simp [damP]; omega
theorem damP_zero (l i j c) : damP l i j c 0 = l := by simp [damP]
theorem damP_all (l i j c) : damP l i j c l.length = l.map fun p => if p.1 = i then (p.1, flipB p.2 j c) else p := by simp [damP]
theorem damP_get {l : List (Nat × List UInt8)} {i j : Nat} {c : UInt8} {k : Nat} {p : Nat × List UInt8} (h : l[k]? = some p) : (damP l i j c k)[k]? = some p := by
  have hk := (List.getElem?_eq_some_iff.1 h).1
  unfold damP
  rw [List.getElem?_append_right (by simp; omega)]
  simp only [List.length_map, List.length_take, List.getElem?_drop]
  rw [Nat.min_eq_left (by omega)]
  simpa using h
theorem damP_succ {l : List (Nat × List UInt8)} {i j : Nat} {c : UInt8} {k : Nat} {p : Nat × List UInt8} (h : l[k]? = some p) : damP l i j c (k + 1) = (damP l i j c k).set k (if p.1 = i then (p.1, flipB p.2 j c) else p) := by
  have hk := (List.getElem?_eq_some_iff.1 h).1
  have hp := (List.getElem?_eq_some_iff.1 h).2
  unfold damP
  rw [List.take_succ_eq_append_getElem hk, hp, List.map_append, List.set_append_right _ _ (by simp; omega)]
  simp only [List.length_map, List.length_take, Nat.min_eq_left (Nat.le_of_lt hk), Nat.sub_self]
  rw [List.drop_eq_getElem_cons hk, List.set_cons_zero]
  simp
theorem zero_pend : ∀ w, (Instr.build 84 #[]).run Try.prog w = .ok (.agg (bv zb).toArray) w := build0
theorem bldP : Bld Try.prog 86 (.int .i64 0 :: bv zb) [(0, 1), (1, 512)] :=
  Bld.mk zeroP rfl Try.runUnderlying86 fun w => by kernel_rfl
theorem fill_pend {i : Int} {s : List UInt8} (hs : s.length = 512) : FillN [(0, 1), (1, 512)] (.int .i64 0 :: bv zb) [(0, .int .i64 i), (1, .agg (bv s).toArray)] (.int .i64 i :: bv s) := by
  refine .one rfl rfl .zero (.agg rfl (by simp [hs]) (by simp) ?_)
  have : splice (.int .i64 i :: bv zb) 1 (bv s) = .int .i64 i :: bv s := by
    simp [splice, hs]
  rw [this]
  exact .nil

theorem bv_flip (s : List UInt8) (j : Nat) (c : UInt8) : (bv s).set j (.int .u8 ((s.getD j 0 ^^^ c).toNat : Int)) = bv (flipB s j c) := by simp [bv, flipB, List.map_set]
theorem bv_getD {s : List UInt8} {j : Nat} (h : j < s.length) : (bv s)[j]? = some (.int .u8 ((s.getD j 0).toNat : Int)) := by rw [bv_get]; simp [h]
theorem damC_zero {D : Dk} {k q : Nat} (hk : k < D.n) (hq : q < 512) : damC D k q = 0 := by
  unfold damC
  rw [if_neg (by omega), if_neg (by omega)]
theorem dam_hit {l : List (Nat × List UInt8)} {i j k : Nat} {c : UInt8} {p : Nat × List UInt8} (h : l[k]? = some p) (e : p.1 = i) :
    ((damP l i j c k).map pcell).set k ((.int .i64 (p.1 : Int) :: bv p.2).set (1 + j) (.int .u8 ((p.2.getD j 0 ^^^ c).toNat : Int))) = (damP l i j c (k + 1)).map pcell := by
  rw [damP_succ h, if_pos e, List.map_set, Nat.add_comm 1 j, List.set_cons_succ, bv_flip]
  rfl
theorem dam_miss {l : List (Nat × List UInt8)} {i j k : Nat} {c : UInt8} {p : Nat × List UInt8} (h : l[k]? = some p) (e : p.1 ≠ i) : damP l i j c (k + 1) = damP l i j c k := by
  rw [damP_succ h, if_neg e]
  exact List.ext_getElem? fun n => by
    by_cases hn : k = n
    · subst hn
      rw [List.getElem?_set_self (by rw [damP_length]; exact (List.getElem?_eq_some_iff.1 h).1), damP_get h]
    · rw [List.getElem?_set_ne hn]
theorem dam_shut {d m k q : Nat} {D : Dk} {c : UInt8} {mp : List (Int × Value)} {a : Option Addr} {cap : Nat} {l : List Assn} (hw : D.wf) (hd : DurOk D.n (upd D.dur k (flipB (D.dur k) q c)) mp) {h : Frag}
    (st : Stars (pts d (.cells [.int .i64 D.n, .map (some m), .slice a D.pend.length cap, .int .i64 D.ops, .int .i64 D.lim, .bool D.down].toArray 81) :: imap m mp :: row a cap 86 513 ((damP D.pend k q c D.pend.length).map pcell) :: l) h) : Stars (dk d (D.damaged k q c) :: l) h := by
  refine dk_shut (D := D.damaged k q c) (m := m) (mp := mp) (a := a) (cap := cap) (hw.damaged k q c) hd ?_
  rw [damP_all] at st
  have e : (D.damaged k q c).pend.length = D.pend.length := by simp [Dk.damaged]
  rw [e]
  exact st
end Go.Proofs.Ytfnoaohbjlnkgaa
