/-
  Elements of slices. No program in it.
-/
import Derived.Test.YtfnoaohbjlnkgaaB1
namespace Go.Proofs.Ytfnoaohbjlnkgaa

/-- In this state the slice at a holds xs. -/
def SIn (hs : List Assn) (a : Option Addr) (s : Nat) (xs : List (List Value)) : Prop := ∀ h0 w0 w, Inv h0 w0 hs w → Flat s xs ∧
  (0 < xs.length → ∃ (b off : Nat) (cs : List Value) (e : TypeId) (fr : Nat × Nat), a = some ⟨b, off, none⟩ ∧ w.heap[b]? = some (.cells cs.toArray e fr) ∧ (cs.drop off).take (xs.length * s) = xs.flatten)

theorem SIn.row {hs hs1 : List Assn} {a cap e s xs} (t : Take (row a cap e s xs) hs hs1) : SIn hs a s xs := by
  intro h0 w0 w i
  rcases row_open t i with ⟨hf, ⟨rfl, rfl, rfl, i'⟩ | ⟨b, cs, lo, hi, rfl, i', r1, r2, r3, r4, r5⟩⟩
  · exact ⟨hf, fun h => absurd h (Nat.lt_irrefl 0)⟩
  · exact ⟨hf, fun _ => ⟨b, 0, cs, e, (lo, hi), rfl, Blk.inv .own i', by rw [List.drop_zero]; exact r5⟩⟩
theorem SIn.blk {hs : List Assn} {b off s : Nat} {cs : List Value} {e : TypeId} {fr : Nat × Nat} {xs : List (List Value)} (hb : Blk b (.cells cs.toArray e fr) hs) (hf : Flat s xs) (hx : (cs.drop off).take (xs.length * s) = xs.flatten) : SIn hs (some ⟨b, off, none⟩) s xs :=
  fun _ _ _ i => ⟨hf, fun _ => ⟨b, off, cs, e, fr, rfl, hb.inv i, hx⟩⟩

/-- The address of the cell p of the element i. -/
def eadr (a : Option Addr) (s i p : Nat) : Value := .pointer (a.map fun ad => ad.add (i * s + p))

theorem flat_elem {cs : List Value} {off : Nat} {xs : List (List Value)} {s : Nat} (hf : Flat s xs) (ht : (cs.drop off).take (xs.length * s) = xs.flatten) {i : Nat} {x : List Value} (hx : xs[i]? = some x) : (cs.drop (off + i * s)).take s = x := by
  have := row_elem (cs := cs.drop off) hf ht hx
  rwa [List.drop_drop] at this

section
variable {P : Program} {C : Cx} {hs hs1 : List Assn} {ρ : Env} {d : Option Tmp} {ty : TypeId} {pos : String} {af : Array Edge} {g : Option (Nat × Bool)} {K : Value → List Assn → Prop}
  {x y : Operand} {v : Value} {t e : TypeId} {s i p o cap : Nat} {a : Option Addr} {xs : List (List Value)} {u vs : List Value}

theorem Rd.sIdx {k : IntKind} {j : Int} {n : Nat} (hu : ∀ w, (underlying t).run P w = .ok (.slice e) w) (hz : ∀ w, (sizeOf e).run P w = .ok s w) (h : Ev C.n ρ x (.slice a n cap)) (hj : Ev C.n ρ y (.int k j)) (hin : SIn hs a s xs) (hn : xs.length = n)
    (h0 : 0 ≤ j) (h1 : j < n) : Rd P C hs ρ ⟨d, .indexAddr t x y, ty, pos, af, g⟩ (eadr a s j.toNat 0) := by
  subst hn
  exact Rd.ex (fun c h => by cases h) (Instr.indexAt t (.slice a xs.length cap) (.int k j)) (fun ds => by simp only [execOp, h ds, hj ds]) fun w hi => by
    obtain ⟨b, off, cs, e', fr, rfl, _, _⟩ := (hin _ _ w hi).2 (by omega)
    simp [Instr.indexAt, asIntOf, Sem.run_bind, hu w, hz w, Result.andThen, h0, h1, eadr]

theorem Rd.sFld (hf : Fld P t p o) (h : Ev C.n ρ x (eadr a s i u.length)) (hin : SIn hs a s xs) (hl : i < xs.length) : Rd P C hs ρ ⟨d, .fieldAddr t x p, ty, pos, af, g⟩ (eadr a s i (u.length + o)) :=
  Rd.ex (fun c h => by cases h) (Instr.fieldAt t (eadr a s i u.length) p) (fun ds => by simp only [execOp, h ds]) fun w hi => by
    obtain ⟨b, off, cs, e', fr, rfl, _, _⟩ := (hin _ _ w hi).2 (by omega)
    simp only [eadr, Option.map_some, hf _ w, add_off]
    congr 4; omega
/-- A field of an element. -/
theorem Rd.sFld0 (hf : Fld P t p o) (h : Ev C.n ρ x (eadr a s i 0)) (hin : SIn hs a s xs) (hl : i < xs.length) : Rd P C hs ρ ⟨d, .fieldAddr t x p, ty, pos, af, g⟩ (eadr a s i o) := by
  have := Rd.sFld (P := P) (C := C) (hs := hs) (d := d) (ty := ty) (pos := pos) (af := af) (g := g) (u := []) hf h hin hl
  rwa [List.length_nil, Nat.zero_add] at this

theorem Rd.sLdA (ht : ∀ w, (isAgg t).run P w = .ok true w) (hz : ∀ w, (sizeOf t).run P w = .ok s w) (h : Ev C.n ρ x (eadr a s i 0)) (hin : SIn hs a s xs) (hx : xs[i]? = some u) :
    Rd P C hs ρ ⟨d, .load t x, ty, pos, af, g⟩ (.agg u.toArray) :=
  Rd.ex (fun c h => by cases h) (Instr.loadAt t (eadr a s i 0)) (fun ds => by simp only [execOp, h ds]) fun w hi => by
    obtain ⟨hf, h2⟩ := hin _ _ w hi
    have hlt := (List.getElem?_eq_some_iff.1 hx).1
    obtain ⟨b, off, cs, e', fr, rfl, hb, ht'⟩ := h2 (by omega)
    simp only [eadr, Option.map_some, add_off, Instr.loadAt, Instr.sureAddr, loadVar, Sem.run_bind, Sem.run_pure, ht w, hz w, Result.andThen, if_true, Nat.add_zero,
      run_loadRow hb (flat_elem hf ht' hx) (hf u (List.mem_of_getElem? hx))]
theorem Rd.sLdP {q : Nat} (ht : ∀ w, (isAgg t).run P w = .ok true w) (hz : ∀ w, (sizeOf t).run P w = .ok q w) (h : Ev C.n ρ x (eadr a s i p)) (hin : SIn hs a s xs) (hx : xs[i]? = some u) (hv : (u.drop p).take q = vs) (hq : vs.length = q) :
    Rd P C hs ρ ⟨d, .load t x, ty, pos, af, g⟩ (.agg vs.toArray) :=
  Rd.ex (fun c h => by cases h) (Instr.loadAt t (eadr a s i p)) (fun ds => by simp only [execOp, h ds]) fun w hi => by
    obtain ⟨hf, h2⟩ := hin _ _ w hi
    have hlt := (List.getElem?_eq_some_iff.1 hx).1
    obtain ⟨b, off, cs, e', fr, rfl, hb, ht'⟩ := h2 (by omega)
    have hul := hf u (List.mem_of_getElem? hx)
    have he := flat_elem hf ht' hx
    have hsub : (cs.drop (off + (i * s + p))).take q = vs := by
      rw [← hv, ← he, List.drop_take, List.drop_drop, List.take_take, Nat.add_assoc]
      have : q ≤ s - p := by
        have : vs.length ≤ u.length - p := by rw [← hv, List.length_take, List.length_drop]; omega
        omega
      rw [Nat.min_eq_left this]
    simp only [eadr, Option.map_some, add_off, Instr.loadAt, Instr.sureAddr, loadVar, Sem.run_bind, Sem.run_pure, ht w, hz w, Result.andThen, if_true,
      run_loadRow hb hsub hq]
theorem Rd.sLd (ht : ∀ w, (isAgg t).run P w = .ok false w) (h : Ev C.n ρ x (eadr a s i p)) (hin : SIn hs a s xs) (hx : xs[i]? = some u) (hv : u[p]? = some v) :
    Rd P C hs ρ ⟨d, .load t x, ty, pos, af, g⟩ v :=
  Rd.ex (fun c h => by cases h) (Instr.loadAt t (eadr a s i p)) (fun ds => by simp only [execOp, h ds]) fun w hi => by
    obtain ⟨hf, h2⟩ := hin _ _ w hi
    have hlt := (List.getElem?_eq_some_iff.1 hx).1
    obtain ⟨b, off, cs, e', fr, rfl, hb, ht'⟩ := h2 (by omega)
    have he := flat_elem hf ht' hx
    have hc : w.cell? ⟨b, off + (i * s + p), none⟩ = some v := by
      rw [cell_of hb, ← hv, ← he]
      have hps : p < s := by
        have := (List.getElem?_eq_some_iff.1 hv).1
        rwa [hf u (List.mem_of_getElem? hx)] at this
      rw [List.getElem?_take_of_lt hps, List.getElem?_drop, Nat.add_assoc]
    simp only [eadr, Option.map_some, add_off, Instr.loadAt, Instr.sureAddr, loadVar, Sem.run_bind, Sem.run_pure, ht w, Result.andThen]
    simp [load, Sem.run, hc]

theorem splice_elem {cs : List Value} {xs : List (List Value)} {s i p : Nat} {u vs : List Value} (hf : Flat s xs) (ht : cs.take (xs.length * s) = xs.flatten) (hl : xs.length * s ≤ cs.length) (hx : xs[i]? = some u) (hp : p + vs.length ≤ s) :
    (splice cs (i * s + p) vs).take ((xs.set i (splice u p vs)).length * s) = (xs.set i (splice u p vs)).flatten := by
  have hlt := (List.getElem?_eq_some_iff.1 hx).1
  have hul := hf u (List.mem_of_getElem? hx)
  have hb : (i + 1) * s ≤ xs.length * s := Nat.mul_le_mul_right s hlt
  rw [Nat.add_mul, Nat.one_mul] at hb
  have hul' : (splice u p vs).length = s := by rw [splice_length (by omega), hul]
  have hf' : Flat s (xs.set i (splice u p vs)) := by
    intro y hy
    rcases List.mem_or_eq_of_mem_set hy with h | h
    · exact hf y h
    · rw [h]; exact hul'
  apply List.ext_getElem?
  intro j
  have hlen : (xs.set i (splice u p vs)).length = xs.length := List.length_set
  by_cases hj : j < xs.length * s
  · have hs0 : 0 < s := by
      rcases Nat.eq_zero_or_pos s with h | h
      · subst h; simp at hj
      · exact h
    rw [hlen, List.getElem?_take_of_lt hj]
    have hq : j / s < xs.length := Nat.div_lt_of_lt_mul (by rw [Nat.mul_comm]; exact hj)
    have hr : j % s < s := Nat.mod_lt _ hs0
    have hjd : j = j / s * s + j % s := by rw [Nat.mul_comm]; exact (Nat.div_add_mod j s).symm
    have key : ∀ (ys : List (List Value)), Flat s ys → ∀ y, ys[j / s]? = some y → ys.flatten[j]? = y[j % s]? := by
      intro ys hys y hy
      have := hys.get hy
      rw [← this, List.getElem?_take_of_lt hr, List.getElem?_drop, ← hjd]
    have hcs : cs[j]? = xs.flatten[j]? := by rw [← ht, List.getElem?_take_of_lt hj]
    have hspl : (splice cs (i * s + p) vs)[j]? = if i * s + p ≤ j ∧ j < i * s + p + vs.length then vs[j - (i * s + p)]? else cs[j]? := by
      unfold splice
      have h1 : (cs.take (i * s + p)).length = i * s + p := by simp; omega
      split
      · rename_i h
        rw [List.append_assoc, List.getElem?_append_right (by omega), h1, List.getElem?_append_left (by omega)]
      · rename_i h
        by_cases h2 : j < i * s + p
        · rw [List.append_assoc, List.getElem?_append_left (by omega), List.getElem?_take_of_lt h2]
        · rw [List.getElem?_append_right (by simp; omega), List.getElem?_drop]
          congr 1
          simp; omega
    rw [hspl]
    by_cases hi : j / s = i
    · have hset : (xs.set i (splice u p vs))[j / s]? = some (splice u p vs) := by rw [hi]; exact List.getElem?_set_self hlt
      rw [key _ hf' _ hset]
      rw [hi] at hjd
      have hspl2 : (splice u p vs)[j % s]? = if p ≤ j % s ∧ j % s < p + vs.length then vs[j % s - p]? else u[j % s]? := by
        unfold splice
        have h1 : (u.take p).length = p := by simp; omega
        split
        · rename_i h
          rw [List.append_assoc, List.getElem?_append_right (by omega), h1, List.getElem?_append_left (by omega)]
        · rename_i h
          by_cases h2 : j % s < p
          · rw [List.append_assoc, List.getElem?_append_left (by omega), List.getElem?_take_of_lt h2]
          · rw [List.getElem?_append_right (by simp; omega), List.getElem?_drop]
            congr 1
            simp; omega
      rw [hspl2, hcs, key xs hf u (by rw [hi]; exact hx)]
      by_cases hc : p ≤ j % s ∧ j % s < p + vs.length
      · rw [if_pos hc, if_pos (by omega)]
        congr 1; omega
      · rw [if_neg hc, if_neg (by omega)]
    · have hset : (xs.set i (splice u p vs))[j / s]? = xs[j / s]? := List.getElem?_set_ne (fun h => hi h.symm)
      obtain ⟨y, hy⟩ : ∃ y, xs[j / s]? = some y := ⟨_, List.getElem?_eq_getElem hq⟩
      rw [key _ hf' y (by rw [hset]; exact hy), hcs, key xs hf y hy]
      rw [if_neg]
      rintro ⟨h1, h2⟩
      apply hi
      have : j / s * s < (i + 1) * s := by rw [Nat.add_mul, Nat.one_mul]; omega
      have a1 : j / s < i + 1 := Nat.lt_of_mul_lt_mul_right this
      have : i * s < (j / s + 1) * s := by rw [Nat.add_mul, Nat.one_mul]; omega
      have a2 : i < j / s + 1 := Nat.lt_of_mul_lt_mul_right this
      omega
  · rw [hlen, List.getElem?_eq_none (by simp; omega), List.getElem?_eq_none (by rw [hf'.length, hlen]; omega)]

theorem Ef.sStG {q : Nat} {hs' : List Assn} (hz : ∀ w, (sizeOf t).run P w = .ok q w) (h : Ev C.n ρ x (eadr a s i p)) (hy : Ev C.n ρ y v) (hvc : v.cells = vs.toArray) (hq : vs.length = q) (hv : ∀ v ∈ vs, v.oneCell' = true)
    (hop : ∀ w, C.inv hs w → C.inv (row a cap e s xs :: hs1) w) (hx : xs[i]? = some u) (hp : p + q ≤ s) (hk : ∀ h, Stars (row a cap e s (xs.set i (splice u p vs)) :: hs1) h → Stars hs' h) (k : K undef hs') :
    Ef P C hs ρ ⟨d, .store t x y, ty, pos, af, g⟩ K :=
  Ef.ex0 (fun c h => by cases h) (Instr.storeAt t (eadr a s i p) v) (fun ds => by simp only [execOp, h ds, hy ds]) fun w hi => by
    have hlt := (List.getElem?_eq_some_iff.1 hx).1
    rcases row_open .here (hop w hi) with ⟨hf, ⟨rfl, rfl, rfl, i'⟩ | ⟨b, cs, lo, hi', rfl, i', r1, r2, r3, r4, r5⟩⟩
    · exact absurd hlt (Nat.not_lt_zero _)
    · have hul := hf u (List.mem_of_getElem? hx)
      have hb : (i + 1) * s ≤ xs.length * s := Nat.mul_le_mul_right s hlt
      rw [Nat.add_mul, Nat.one_mul] at hb
      have hb2 : xs.length * s ≤ cap * s := Nat.mul_le_mul_right s r3
      have h1 := run_storeRow (P := P) vs (i := 0) (off := i * s + p) (Blk.inv .own i') (by omega) (by omega) hv
      refine ⟨_, _, ?_, (i'.upd .here).mono fun h st => hk h (row_mk (cs := splice cs (i * s + p) vs) (xs := xs.set i (splice u p vs)) ?_ r1 ?_ ?_ r4 ?_ st), k⟩
      · simp only [eadr, Option.map_some, add_off, Instr.storeAt, Instr.sureAddr, storeVar, Sem.run_bind, Sem.run_pure, hz w, Result.andThen, hvc, Nat.zero_add]
        simp only [Nat.add_zero] at h1
        simp [hq, h1]
      · intro y hy
        rcases List.mem_or_eq_of_mem_set hy with h | h
        · exact hf y h
        · rw [h, splice_length (by omega), hul]
      · rw [splice_length (by omega), r2]
      · rw [List.length_set]; exact r3
      · exact splice_elem hf r5 (by omega) hx (by omega)

theorem Ef.sStA {q : Nat} (hz : ∀ w, (sizeOf t).run P w = .ok q w) (h : Ev C.n ρ x (eadr a s i p)) (hy : Ev C.n ρ y v) (hvc : v.cells = vs.toArray) (hq : vs.length = q) (hv : ∀ v ∈ vs, v.oneCell' = true)
    (tk : Take (row a cap e s xs) hs hs1) (hx : xs[i]? = some u) (hp : p + q ≤ s) (k : K undef (row a cap e s (xs.set i (splice u p vs)) :: hs1)) :
    Ef P C hs ρ ⟨d, .store t x y, ty, pos, af, g⟩ K := Ef.sStG hz h hy hvc hq hv (fun _ i => Inv.perm tk.perm i) hx hp (fun _ s => s) k

theorem splice_set {u : List Value} {p : Nat} {v : Value} (h : p < u.length) : splice u p [v] = u.set p v := by
  unfold splice
  rw [List.set_eq_take_append_cons_drop, if_pos h]
  simp

theorem Ef.sSt (hz : ∀ w, (sizeOf t).run P w = .ok 1 w) (h : Ev C.n ρ x (eadr a s i p)) (hy : Ev C.n ρ y v) (hv : v.oneCell' = true)
    (tk : Take (row a cap e s xs) hs hs1) (hx : xs[i]? = some u) (hp : p < s) (hu : u.length = s) (k : K undef (row a cap e s (xs.set i (u.set p v)) :: hs1)) :
    Ef P C hs ρ ⟨d, .store t x y, ty, pos, af, g⟩ K := by
  have hcells : v.cells = [v].toArray := by cases v <;> first | rfl | exact absurd hv (by simp [Value.oneCell'])
  refine Ef.sStA (vs := [v]) hz h hy hcells rfl (by simpa using hv) tk hx (by omega) ?_
  rw [splice_set (by omega)]
  exact k
end

theorem cons_one {v : Value} {l : List Value} (h : v.oneCell' = true) (hl : ∀ u ∈ l, u.oneCell' = true) : ∀ u ∈ v :: l, u.oneCell' = true := by
  intro u hu
  rcases List.mem_cons.1 hu with rfl | hu
  · exact h
  · exact hl u hu

/-! ### facts among the assertions -/
theorem J.openP {P : Program} {C : Cx} {Q : Exit → Act → World → Prop} {ρ : Env} {p : Prop} {hs hs1 : List Assn} {c : Code} (t : Take (pure_ p) hs hs1) (k : p → J P C c Q ρ hs1) : J P C c Q ρ hs := by
  intro w i
  obtain ⟨h, ⟨h1, h2, a, s, cm, rfl⟩, b, f⟩ := Inv.perm t.perm i
  unfold pure_ at a
  exact k a w ⟨_, by rw [jn_comm cm]; exact Stars.weak s cm.symm, b, f⟩
theorem At.openP {C : Cx} {Q : Exit → Act → World → Prop} {e : Exit} {ρ : Env} {p : Prop} {hs hs1 : List Assn} (t : Take (pure_ p) hs hs1) (k : p → At C Q e ρ hs1) : At C Q e ρ hs := by
  intro w i
  obtain ⟨h, ⟨h1, h2, a, s, cm, rfl⟩, b, f⟩ := Inv.perm t.perm i
  unfold pure_ at a
  exact k a w ⟨_, by rw [jn_comm cm]; exact Stars.weak s cm.symm, b, f⟩
theorem Stars.fact {p : Prop} (hp : p) {l : List Assn} {h : Frag} (s : Stars l h) : Stars (pure_ p :: l) h :=
  ⟨fun _ => none, h, by unfold pure_; exact hp, s, fun _ => .inl rfl, by funext b; rfl⟩
theorem Stars.factE {p : Prop} (hp : p) {l : List Assn} {h : Frag} (s : Stars l h) : Stars (l ++ [pure_ p]) h :=
  Stars.perm (List.perm_append_singleton _ _).symm (Stars.fact hp s)

/-! ### iterators whose rounds keep one assertion -/
theorem Stars.wrap {l m : List Assn} {h : Frag} : Stars (m ++ [Stars l]) h ↔ Stars (m ++ l) h := by
  constructor
  · intro s
    obtain ⟨h1, h2, a, b, c, rfl⟩ := Stars.append.1 s
    obtain ⟨h3, h4, d, _, f, rfl⟩ := b
    exact Stars.append.2 ⟨h1, _, a, Stars.weak d f, c, rfl⟩
  · intro s
    obtain ⟨h1, h2, a, b, c, rfl⟩ := Stars.append.1 s
    exact Stars.append.2 ⟨h1, h2, a, Stars.single b, c, rfl⟩

theorem Iter.of {P : Program} {gf : FuncId} {cap : List Value} {own own' : List Assn} {xs : List (List Value)} {n : Nat} (hn : xs.length = n)
    (f : ∀ (l : Nat) (J Jx : Nat → Assn), (∀ k x, xs[k]? = some x → Yields P l x [J k] [J (k + 1)] [Jx k]) →
      Fn P gf (.func (.yield l) #[] #[] :: cap) (own ++ [J 0]) (X := Option Nat) (fun z => ∀ k, z = some k → k < n) (fun _ => .tuple #[])
      (fun z => own' ++ [match z with | none => J n | some k => Jx k])) : Iter P gf cap own xs own' := by
  subst hn
  intro l J Jx hy
  have g := f l (fun k => Stars (J k)) (fun k => Stars (Jx k)) (fun k x hx w h s b => by
    have s' : Stars (J k) h := Stars.wrap (m := []).1 s
    obtain ⟨fn, tmps, as, bo, hr, hR⟩ := hy k x hx w h s' b
    refine ⟨fn, tmps, as, bo, hr, hR.mono ?_⟩
    rintro e w' ⟨c, h', rfl, t, d, e⟩
    refine ⟨c, h', rfl, ?_, d, e⟩
    cases c
    · exact Stars.wrap (m := []).2 t
    · exact Stars.wrap (m := []).2 t)
  refine ⟨g.ent, fun w h s b => (g.calls w h (Stars.wrap.2 s) b).mono ?_⟩
  rintro e w' ⟨z, h', hz, rfl, t, d, e⟩
  refine ⟨z, h', hz, rfl, ?_, d, e⟩
  cases z
  · exact Stars.wrap.1 t
  · exact Stars.wrap.1 t

end Go.Proofs.Ytfnoaohbjlnkgaa
