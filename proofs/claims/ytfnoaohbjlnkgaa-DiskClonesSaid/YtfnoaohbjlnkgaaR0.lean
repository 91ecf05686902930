/-
  The reference's device: what its memory holds.
-/
import Derived.Test.YtfnoaohbjlnkgaaD9
namespace Go.Proofs.Ytfnoaohbjlnkgaa

def durs (n : Nat) (dur : Nat → List UInt8) : List (List Value) := (List.range n).map fun i => [str (dur i)]
@[simp] theorem durs_length (n dur) : (durs n dur).length = n := by simp [durs]
theorem durs_get {n : Nat} {dur : Nat → List UInt8} {i : Nat} (h : i < n) : (durs n dur)[i]? = some [str (dur i)] := by simp [durs, h]
theorem durs_succ (n : Nat) (dur : Nat → List UInt8) : durs (n + 1) dur = durs n dur ++ [[str (dur n)]] := by simp [durs, List.range_succ]
theorem durs_congr {n : Nat} {f g : Nat → List UInt8} (h : ∀ i, i < n → f i = g i) : durs n f = durs n g := by
  unfold durs
  apply List.map_congr_left
  intro i hi
  rw [h i (List.mem_range.1 hi)]
def wcell (p : Nat × List UInt8) : List Value := [.int .i64 (p.1 : Int), str p.2]
theorem wcells_get {l : List (Nat × List UInt8)} {i : Nat} {p : Nat × List UInt8} (h : l[i]? = some p) : (l.map wcell)[i]? = some [.int .i64 (p.1 : Int), str p.2] := by simp [h, wcell]

abbrev refV (a : Option Addr) (c1 : Nat) (a2 : Option Addr) (c2 : Nat) (D : Dk) : Value :=
  .agg [Value.slice a D.n c1, .slice a2 D.pend.length c2, .int .i64 D.lim, .bool D.down, .int .i64 D.ops].toArray

/-- v is the reference's device in the state D; nobody owns its memory. -/
@[irreducible] def rdA (v : Value) (D : Dk) : Assn := fun h => ∃ x : Option Addr × Nat × Option Addr × Nat, (v = refV x.1 x.2.1 x.2.2.1 x.2.2.2 D ∧ D.wf) ∧ Stars [rowR x.1 1 (durs D.n D.dur), rowR x.2.2.1 2 (D.pend.map wcell)] h

theorem rdA_open {v : Value} {D : Dk} (h : Frag) (s : rdA v D h) : ∃ x : Option Addr × Nat × Option Addr × Nat, (v = refV x.1 x.2.1 x.2.2.1 x.2.2.2 D ∧ D.wf) ∧ Stars [rowR x.1 1 (durs D.n D.dur), rowR x.2.2.1 2 (D.pend.map wcell)] h := by
  unfold rdA at s; exact s
theorem rdA_shut {a : Option Addr} {c1 : Nat} {a2 : Option Addr} {c2 : Nat} {D : Dk} (hw : D.wf) {l : List Assn} {h : Frag} (s : Stars (rowR a 1 (durs D.n D.dur) :: rowR a2 2 (D.pend.map wcell) :: l) h) : Stars (rdA (refV a c1 a2 c2 D) D :: l) h :=
  Stars.shut (L := [rowR a 1 (durs D.n D.dur), rowR a2 2 (D.pend.map wcell)]) (fun h t => by unfold rdA; exact ⟨(a, c1, a2, c2), ⟨rfl, hw⟩, t⟩) s
theorem rdA_wf {v : Value} {D : Dk} {l : List Assn} {h : Frag} (s : Stars (rdA v D :: l) h) : D.wf := by
  obtain ⟨h1, h2, p, _⟩ := s
  obtain ⟨x, hw, _⟩ := rdA_open h1 p
  exact hw.2
theorem rdA_dup {v : Value} {D : Dk} {l : List Assn} {h : Frag} (s : Stars (rdA v D :: l) h) : Stars (rdA v D :: rdA v D :: l) h := by
  obtain ⟨h1, h2, p, q, c, rfl⟩ := s
  obtain ⟨⟨a, c1, a2, c2⟩, ⟨rfl, hw⟩, st⟩ := rdA_open h1 p
  have s2 : Stars ([rowR a 1 (durs D.n D.dur), rowR a2 2 (D.pend.map wcell)] ++ l) (jn h1 h2) := Stars.append.2 ⟨h1, h2, st, q, c, rfl⟩
  have s3 := rowR_dup s2
  have s4 := rowR_dup (Stars.perm (List.Perm.trans (List.Perm.cons _ (List.Perm.swap _ _ _)) (List.Perm.swap _ _ _)) s3)
  have s5 := rdA_shut (c1 := c1) (c2 := c2) hw (Stars.perm (List.Perm.trans (List.Perm.cons _ (List.Perm.swap _ _ _)) (List.Perm.swap _ _ _)) s4)
  exact Stars.swap (rdA_shut (c1 := c1) (c2 := c2) hw (l := rdA _ D :: l) (Stars.perm (List.Perm.trans (List.Perm.swap _ _ _) (List.Perm.trans (List.Perm.cons _ (List.Perm.swap _ _ _)) (List.Perm.swap _ _ _))) s5))
theorem wcell_one {l : List (Nat × List UInt8)} : ∀ u ∈ (l.map wcell).flatten, u.oneCell' = true := by
  intro u hu
  obtain ⟨x, hx, hu⟩ := List.mem_flatten.1 hu
  obtain ⟨p, _, rfl⟩ := List.mem_map.1 hx
  simp only [wcell, List.mem_cons, List.not_mem_nil, or_false] at hu
  rcases hu with rfl | rfl <;> rfl
theorem dur_one {n : Nat} {dur : Nat → List UInt8} : ∀ u ∈ (durs n dur).flatten, u.oneCell' = true := by
  intro u hu
  obtain ⟨x, hx, hu⟩ := List.mem_flatten.1 hu
  obtain ⟨p, _, rfl⟩ := List.mem_map.1 hx
  simp only [List.mem_cons, List.not_mem_nil, or_false] at hu
  subst hu
  rfl
@[simp] theorem operated_vis (D : Dk) : D.operated.vis = D.vis := by funext i; simp [Dk.vis]
theorem durs_set {n i : Nat} {dur : Nat → List UInt8} {s : List UInt8} {v : Value} (h : i < n) : (durs n dur).set (i : Int).toNat ([v].set 0 (str s)) = durs n (upd dur i s) := by
  rw [Int.toNat_natCast]
  apply List.ext_getElem?
  intro j
  by_cases hj : j < n
  · rw [durs_get hj]
    by_cases e : i = j
    · subst e
      rw [List.getElem?_set_self (by simpa using h)]
      simp [upd]
    · rw [List.getElem?_set_ne e, durs_get hj]
      have : ¬ j = i := fun h => e h.symm
      simp [upd, this]
  · rw [List.getElem?_eq_none (by simp; omega), List.getElem?_eq_none (by simp; omega)]
theorem rdam_hit {l : List (Nat × List UInt8)} {i j k : Nat} {c : UInt8} {p : Nat × List UInt8} (h : l[k]? = some p) (e : p.1 = i) :
    ((damP l i j c k).map wcell).set k ([Value.int .i64 (p.1 : Int), str p.2].set 1 (str (flipB p.2 j c))) = (damP l i j c (k + 1)).map wcell := by
  rw [damP_succ h, if_pos e, List.map_set]
  rfl

/-- An operation as it lies in memory. -/
structure OpV where
  kind : UInt8
  block : Int
  at_ : Int
  first : UInt8
  ca : Option Addr
  cc : Nat
  ch : List UInt8
abbrev opC (o : OpV) : List Value := [.int .u8 (o.kind.toNat : Int), .int .i64 o.block, .int .i64 o.at_, .int .u8 (o.first.toNat : Int), .slice o.ca o.ch.length o.cc]
/-- The bytes that an operation writes. -/
def opPre (f : UInt8) (x : Nat) : List UInt8 := (List.range x).map fun i => f + UInt8.ofNat i
def opB (f : UInt8) : List UInt8 := opPre f 512
@[simp] theorem opPre_length (f x) : (opPre f x).length = x := by simp [opPre]
@[simp] theorem opB_length (f) : (opB f).length = 512 := opPre_length f 512
theorem opPre_step {f : UInt8} {x n : Nat} (h : x < n) : (opPre f x ++ List.replicate (n - x) 0).set x (f + UInt8.ofNat x) = opPre f (x + 1) ++ List.replicate (n - (x + 1)) 0 := by
  rw [List.set_append_right _ _ (by simp)]
  simp only [opPre_length, Nat.sub_self]
  rw [show n - x = n - (x + 1) + 1 by omega, List.replicate_succ, List.set_cons_zero]
  simp [opPre, List.range_succ]
def atU (z : Int) : Nat := (z % 18446744073709551616).toNat % 600
def doD (D : Dk) (o : OpV) : Dk :=
  if o.kind.toNat % 8 = 0 then writeD D o.block (opB o.first) else if o.kind.toNat % 8 = 1 then flushD D else if o.kind.toNat % 8 = 2 then D else if o.kind.toNat % 8 = 3 then D.failed
  else if o.kind.toNat % 8 = 4 then backD D (o.ch.take 60) else if o.kind.toNat % 8 = 5 then { D with lim := max o.at_ (-1) } else if o.kind.toNat % 8 = 6 then damD D o.block o.at_ o.first
  else writeD D o.block ((opB o.first ++ opB o.first).take (atU o.at_))
theorem rowR_b60 {a : Option Addr} {l : List UInt8} {hs : List Assn} {h : Frag} (k : Nat) (st : Stars (rowR a 1 (b1s l) :: hs) h) : Stars (rowR a 1 (b1s (l.take k)) :: hs) h := by
  have := rowR_take (k := k) st
  rwa [show (b1s l).take k = b1s (l.take k) by simp [b1s, List.map_take]] at this
/-- What an operation may be. -/
structure OpV.ok (o : OpV) : Prop where
  cc : o.ch.length ≤ o.cc
  at1 : -9223372036854775808 ≤ o.at_
  at2 : o.at_ ≤ 9223372036854775807
  len : o.ch.length ≤ 9223372036854775807
theorem atU_eq (z : Int) : (z % 18446744073709551616 % 600).toNat = atU z := by unfold atU; omega
theorem atU_lt (z : Int) : atU z < 600 := by unfold atU; omega

/-- The operations that lie in the slice at a. -/
@[irreducible] def opsIn (a : Option Addr) (l : List OpV) : Assn := fun h => rowR a 5 (l.map opC) h ∧ ∀ o ∈ l, o.ok ∧ rowR o.ca 1 (b1s o.ch) h
theorem ops_row {a : Option Addr} {l : List OpV} (h : Frag) (x : opsIn a l h) : rowR a 5 (l.map opC) h := by unfold opsIn at x; exact x.1
theorem SIn.ops {hs hs1 : List Assn} {a : Option Addr} {l : List OpV} (t : Take (opsIn a l) hs hs1) : SIn hs a 5 (l.map opC) := fun h0 w0 w i => by
  have i2 := (Inv.perm t.perm i).mono fun h st => rowR_pick ops_row st
  exact SIn.rowR .here h0 w0 w i2
theorem J.opGet {P : Program} {C : Cx} {Q : Exit → Act → World → Prop} {ρ : Env} {hs hs1 : List Assn} {c : Code} {a : Option Addr} {l : List OpV} {i : Nat} {o : OpV} (t : Take (opsIn a l) hs hs1) (hi : l[i]? = some o)
    (k : o.ok → J P C c Q ρ (rowR o.ca 1 (b1s o.ch) :: opsIn a l :: hs1)) : J P C c Q ρ hs := by
  have hm := List.mem_of_getElem? hi
  refine J.know (p := o.ok) (fun h st => ?_) fun hok => ?_
  · obtain ⟨h1, h2, x, _⟩ := Stars.perm t.perm st
    unfold opsIn at x
    exact (x.2 o hm).1
  · refine J.weak (fun h st => rowR_pick (A := opsIn a l) (fun h x => ?_) (Stars.perm t.perm st)) (k hok)
    unfold opsIn at x
    exact (x.2 o hm).2
/-- A device after the first k operations. -/
def playD (D : Dk) (l : List OpV) (k : Nat) : Dk := (l.take k).foldl doD D
theorem playD_zero (D l) : playD D l 0 = D := rfl
theorem playD_succ {D : Dk} {l : List OpV} {k : Nat} {o : OpV} (h : l[k]? = some o) : playD D l (k + 1) = doD (playD D l k) o := by
  have hk := (List.getElem?_eq_some_iff.1 h).1
  have e := (List.getElem?_eq_some_iff.1 h).2
  unfold playD
  rw [List.take_succ_eq_append_getElem hk, List.foldl_append, e]
  rfl
theorem operated_ops (D : Dk) : D.operated.ops ≤ D.ops + 1 := by
  unfold Dk.operated
  split
  · exact Nat.le_succ _
  · exact Nat.le_refl _
theorem writeD_ops (D : Dk) (i : Int) (s : List UInt8) : (writeD D i s).ops ≤ D.ops + 1 ∧ (writeD D i s).pend.length ≤ D.pend.length + 1 ∧ (writeD D i s).n = D.n := by
  have := operated_ops D
  unfold writeD
  split
  · exact ⟨by omega, by omega, rfl⟩
  split
  · exact ⟨by omega, by omega, rfl⟩
  split
  · exact ⟨this, by simp, by simp⟩
  · exact ⟨this, by simp [Dk.wrote], by simp [Dk.wrote]⟩
theorem doD_ops (D : Dk) (o : OpV) : (doD D o).ops ≤ D.ops + 1 ∧ (doD D o).pend.length ≤ D.pend.length + 1 ∧ (doD D o).n = D.n := by
  have := operated_ops D
  unfold doD
  split
  · exact writeD_ops _ _ _
  split
  · unfold flushD
    split
    · exact ⟨by omega, by omega, rfl⟩
    split
    · exact ⟨this, by simp, by simp⟩
    · exact ⟨this, by simp [Dk.flushed], by simp [Dk.flushed]⟩
  split
  · exact ⟨by omega, by omega, rfl⟩
  split
  · exact ⟨Nat.le_succ _, Nat.le_succ _, rfl⟩
  split
  · unfold backD
    split
    · exact ⟨Nat.le_succ _, by simp [Dk.restarted], rfl⟩
    · exact ⟨by omega, by omega, rfl⟩
  split
  · exact ⟨Nat.le_succ _, Nat.le_succ _, rfl⟩
  split
  · unfold damD
    split
    · exact ⟨by omega, by omega, rfl⟩
    · exact ⟨Nat.le_succ _, by simp [Dk.damaged], rfl⟩
  · exact writeD_ops _ _ _
theorem playD_ops (D : Dk) (l : List OpV) : ∀ k, (playD D l k).ops ≤ D.ops + k ∧ (playD D l k).pend.length ≤ D.pend.length + k ∧ (playD D l k).n = D.n := by
  intro k
  induction k with
  | zero => exact ⟨by rw [playD_zero]; omega, by rw [playD_zero]; omega, rfl⟩
  | succ k ih =>
    rcases h : l[k]? with _ | o
    · have hk := List.getElem?_eq_none_iff.1 h
      have e : playD D l (k + 1) = playD D l k := by unfold playD; rw [List.take_of_length_le (by omega), List.take_of_length_le hk]
      rw [e]
      exact ⟨by omega, by omega, ih.2.2⟩
    · rw [playD_succ h]
      have := doD_ops (playD D l k) o
      exact ⟨by omega, by omega, by rw [this.2.2]; exact ih.2.2⟩

/-! ### what Pending hands out -/
/-- The cells of a list of writes whose bytes lie in slices of their own. -/
def wl (l : List (Nat × List UInt8)) (xs : List (Option Addr × Nat)) : List (List Value) := List.zipWith (fun p x => [Value.int .i64 (p.1 : Int), .slice x.1 p.2.length x.2]) l xs
@[irreducible] def bytesL (l : List (Nat × List UInt8)) (xs : List (Option Addr × Nat)) : Assn := fun h => Stars (List.zipWith (fun p x => bytesA x.1 x.2 p.2) l xs) h
theorem bytesL_nil {l : List Assn} {h : Frag} (s : Stars l h) : Stars (bytesL [] [] :: l) h := ⟨fun _ => none, h, by unfold bytesL; trivial, s, fun _ => .inl rfl, by funext b; rfl⟩
theorem bytesL_snoc {l : List (Nat × List UInt8)} {xs : List (Option Addr × Nat)} {p : Nat × List UInt8} {x : Option Addr × Nat} (hl : l.length = xs.length) {m : List Assn} {h : Frag} (s : Stars (bytesA x.1 x.2 p.2 :: bytesL l xs :: m) h) : Stars (bytesL (l ++ [p]) (xs ++ [x]) :: m) h := by
  refine Stars.shut (L := [bytesL l xs, bytesA x.1 x.2 p.2]) (fun g t => ?_) (Stars.swap s)
  obtain ⟨h1, h2, a, b, c, rfl⟩ := t
  unfold bytesL at a ⊢
  rw [List.zipWith_append hl]
  exact Stars.append.2 ⟨h1, h2, a, b, c, rfl⟩
theorem SIn.bytesL {hs hs1 : List Assn} {l : List (Nat × List UInt8)} {xs : List (Option Addr × Nat)} {i : Nat} {p : Nat × List UInt8} {x : Option Addr × Nat} (t : Take (bytesL l xs) hs hs1) (hp : l[i]? = some p) (hx : xs[i]? = some x) : SIn hs x.1 1 (b1s p.2) := by
  intro h0 w0 w inv
  have hm : bytesA x.1 x.2 p.2 ∈ List.zipWith (fun p x => bytesA x.1 x.2 p.2) l xs := by
    refine List.mem_of_getElem? (i := i) ?_
    rw [List.getElem?_zipWith, hp, hx]
  obtain ⟨s1, s2, e⟩ := List.append_of_mem hm
  have i2 : Inv h0 w0 (bytesA x.1 x.2 p.2 :: (s1 ++ s2 ++ hs1)) w := by
    refine (Inv.perm t.perm inv).mono fun h st => ?_
    obtain ⟨h1, h2, a, b, c, rfl⟩ := st
    unfold Proofs.Ytfnoaohbjlnkgaa.bytesL at a
    have s3 := Stars.append.2 ⟨h1, h2, a, b, c, rfl⟩
    rw [e] at s3
    refine Stars.perm ?_ s3
    rw [List.append_assoc, List.cons_append, List.append_assoc]
    exact List.perm_middle
  exact SIn.bytes .here h0 w0 w i2
theorem At.bytesSnoc {C : Cx} {Q : Exit → Act → World → Prop} {ex : Exit} {ρ : Env} {hs h1 h2 : List Assn} {l : List (Nat × List UInt8)} {xs : List (Option Addr × Nat)} {p : Nat × List UInt8} {a : Option Addr} {cap : Nat} (hl : l.length = xs.length)
    (t1 : Take (bytesA a cap p.2) hs h1) (t2 : Take (bytesL l xs) h1 h2) (k : At C Q ex ρ (bytesL (l ++ [p]) (xs ++ [(a, cap)]) :: h2)) : At C Q ex ρ hs :=
  At.weak (fun _ st => bytesL_snoc (x := (a, cap)) hl (Stars.perm (t1.perm.trans (List.Perm.cons _ t2.perm)) st)) k
theorem J.newBytesL {P : Program} {C : Cx} {Q : Exit → Act → World → Prop} {ρ : Env} {hs : List Assn} {c : Code} (k : J P C c Q ρ (bytesL [] [] :: hs)) : J P C c Q ρ hs := J.weak (fun _ st => bytesL_nil st) k
theorem J.nilRow {P : Program} {C : Cx} {Q : Exit → Act → World → Prop} {ρ : Env} {hs : List Assn} {c : Code} (e s : Nat) (k : J P C c Q ρ (row none 0 e s [] :: hs)) : J P C c Q ρ hs := J.weak (fun _ st => row_nil e s st) k
theorem wl_snoc {l : List (Nat × List UInt8)} {xs : List (Option Addr × Nat)} {p : Nat × List UInt8} {x : Option Addr × Nat} (hl : l.length = xs.length) : wl l xs ++ [[Value.int .i64 (p.1 : Int), .slice x.1 p.2.length x.2]] = wl (l ++ [p]) (xs ++ [x]) := by
  unfold wl
  rw [List.zipWith_append hl]
  rfl
theorem wl_length {l : List (Nat × List UInt8)} {xs : List (Option Addr × Nat)} (hl : l.length = xs.length) : (wl l xs).length = l.length := by
  unfold wl
  rw [List.length_zipWith]
  omega
theorem wl_get {l : List (Nat × List UInt8)} {xs : List (Option Addr × Nat)} {i : Nat} {p : Nat × List UInt8} {x : Option Addr × Nat} (hp : l[i]? = some p) (hx : xs[i]? = some x) : (wl l xs)[i]? = some [Value.int .i64 (p.1 : Int), .slice x.1 p.2.length x.2] := by
  unfold wl
  rw [List.getElem?_zipWith, hp, hx]
end Go.Proofs.Ytfnoaohbjlnkgaa
