/-
  Slices that are owned, bytes and strings. No program in it.
-/
import Derived.Test.YtfnoaohbjlnkgaaA7
import Derived.Laws.IdiomStrings
namespace Go.Proofs.Ytfnoaohbjlnkgaa

/-- Bytes as cells, and a string out of bytes. -/
def bv (l : List UInt8) : List Value := l.map fun b => .int .u8 (b.toNat : Int)
def str (l : List UInt8) : Value := .string ⟨l.toArray⟩
@[simp] theorem bv_length (l : List UInt8) : (bv l).length = l.length := by simp [bv]
theorem bv_one (l : List UInt8) : ∀ v ∈ bv l, v.oneCell' = true := by
  intro v hv
  obtain ⟨b, _, rfl⟩ := List.mem_map.1 hv
  rfl
theorem bv_append (l m : List UInt8) : bv (l ++ m) = bv l ++ bv m := by simp [bv]
theorem bv_get (l : List UInt8) (i : Nat) : (bv l)[i]? = (l[i]?).map fun b => .int .u8 (b.toNat : Int) := by simp [bv]
theorem bv_take (l : List UInt8) (n : Nat) : bv (l.take n) = (bv l).take n := by simp [bv, List.map_take]
theorem bv_drop (l : List UInt8) (n : Nat) : bv (l.drop n) = (bv l).drop n := by simp [bv, List.map_drop]
theorem u8_of {a b : UInt8} (h : (a.toNat : Int) = b.toNat) : a = b := UInt8.toNat_inj.1 (by omega)
theorem bv_inj {l m : List UInt8} (h : bv l = bv m) : l = m := by
  induction l generalizing m with
  | nil => cases m with | nil => rfl | cons b m => simp [bv] at h
  | cons a l ih =>
    cases m with
    | nil => simp [bv] at h
    | cons b m =>
      simp only [bv, List.map_cons, List.cons.injEq, Value.int.injEq, true_and] at h
      rw [u8_of h.1, ih h.2]

/-- All cells of a list of elements. -/
def Flat (s : Nat) (xs : List (List Value)) : Prop := ∀ x ∈ xs, x.length = s
theorem Flat.length {s : Nat} {xs : List (List Value)} (h : Flat s xs) : xs.flatten.length = xs.length * s := by
  induction xs with
  | nil => simp
  | cons x xs ih =>
    rw [List.flatten_cons, List.length_append, h x (List.mem_cons_self ..), ih fun y hy => h y (List.mem_cons_of_mem _ hy), List.length_cons, Nat.add_mul]
    omega
theorem Flat.get {s : Nat} {xs : List (List Value)} (h : Flat s xs) : ∀ {i : Nat} {x : List Value}, xs[i]? = some x → (xs.flatten.drop (i * s)).take s = x := by
  induction xs with
  | nil => intro i x hx; simp at hx
  | cons y xs ih =>
    intro i x hx
    have hy : y.length = s := h y (List.mem_cons_self ..)
    cases i with
    | zero =>
      simp at hx; subst hx
      simp [← hy]
    | succ i =>
      have := ih (fun z hz => h z (List.mem_cons_of_mem _ hz)) (i := i) (x := x) (by simpa using hx)
      rw [List.flatten_cons, Nat.add_mul, Nat.one_mul, Nat.add_comm, ← List.drop_drop, ← hy, List.drop_left, hy]
      exact this

/-- A slice that is owned: its array's address, its capacity, the element's type and size, and the elements. Its value is `.slice a xs.length cap`. -/
@[irreducible] def row (a : Option Addr) (cap : Nat) (e : TypeId) (s : Nat) (xs : List (List Value)) : Assn := fun h =>
  Flat s xs ∧ ((a = none ∧ xs = [] ∧ cap = 0) ∨ ∃ (b : Nat) (cs : List Value) (lo hi : Nat), a = some ⟨b, 0, none⟩ ∧ h b = some (true, .cells cs.toArray e (lo, hi)) ∧ (hi ≤ lo ∨ cap * s ≤ lo) ∧ cs.length = cap * s ∧ xs.length ≤ cap ∧ cap ≤ maxLen ∧ cs.take (xs.length * s) = xs.flatten)

theorem row_nil (e : TypeId) (s : Nat) {l : List Assn} {h : Frag} (t : Stars l h) : Stars (row none 0 e s [] :: l) h :=
  ⟨fun _ => none, h, by unfold row; exact ⟨(by intro x hx; cases hx), .inl ⟨rfl, rfl, rfl⟩⟩, t, fun _ => .inl rfl, by funext b; rfl⟩

theorem row_mk {b cap e s lo hi} {cs : List Value} {xs : List (List Value)} (hf : Flat s xs) (hfr : hi ≤ lo ∨ cap * s ≤ lo) (hc : cs.length = cap * s) (hl : xs.length ≤ cap) (hm : cap ≤ maxLen) (ht : cs.take (xs.length * s) = xs.flatten)
    {l : List Assn} {h : Frag} (t : Stars (pts b (.cells cs.toArray e (lo, hi)) :: l) h) : Stars (row (some ⟨b, 0, none⟩) cap e s xs :: l) h := by
  obtain ⟨h1, h2, p, q, c, rfl⟩ := t
  unfold pts at p
  exact ⟨h1, h2, by unfold row; exact ⟨hf, .inr ⟨b, cs, lo, hi, rfl, p, hfr, hc, hl, hm, ht⟩⟩, q, c, rfl⟩

theorem row_open {a cap e s xs} {hs hs1 : List Assn} {h0 : Frag} {w0 w : World} (t : Take (row a cap e s xs) hs hs1) (i : Inv h0 w0 hs w) :
    Flat s xs ∧ ((a = none ∧ xs = [] ∧ cap = 0 ∧ Inv h0 w0 hs1 w) ∨ ∃ (b : Nat) (cs : List Value) (lo hi : Nat), a = some ⟨b, 0, none⟩ ∧ Inv h0 w0 (pts b (.cells cs.toArray e (lo, hi)) :: hs1) w ∧ (hi ≤ lo ∨ cap * s ≤ lo) ∧ cs.length = cap * s ∧ xs.length ≤ cap ∧ cap ≤ maxLen ∧ cs.take (xs.length * s) = xs.flatten) := by
  obtain ⟨h, st, b, f⟩ := Inv.perm t.perm i
  obtain ⟨h1, h2, p, q, c, rfl⟩ := st
  unfold row at p
  obtain ⟨hf, ⟨rfl, rfl, rfl⟩ | ⟨b', cs, lo, hi, rfl, hp, r⟩⟩ := p
  · refine ⟨hf, .inl ⟨rfl, rfl, rfl, ⟨_, ?_, b, f⟩⟩⟩
    rw [jn_comm c]; exact Stars.weak q c.symm
  · exact ⟨hf, .inr ⟨b', cs, lo, hi, rfl, ⟨_, ⟨h1, h2, by unfold pts; exact hp, q, c, rfl⟩, b, f⟩, r⟩⟩

/-- For a walk: the two forms of a slice. -/
theorem J.openRow {P : Program} {C : Cx} {Q : Exit → Act → World → Prop} {ρ : Env} {hs hs1 : List Assn} {c : Code} {a cap e s xs} (t : Take (row a cap e s xs) hs hs1)
    (hn : a = none → xs = [] → cap = 0 → J P C c Q ρ hs1)
    (hc : ∀ (b : Nat) (cs : List Value) (lo hi : Nat), Flat s xs → a = some ⟨b, 0, none⟩ → (hi ≤ lo ∨ cap * s ≤ lo) → cs.length = cap * s → xs.length ≤ cap → cap ≤ maxLen → cs.take (xs.length * s) = xs.flatten → J P C c Q ρ (pts b (.cells cs.toArray e (lo, hi)) :: hs1)) : J P C c Q ρ hs := by
  intro w i
  rcases row_open t i with ⟨hf, ⟨rfl, rfl, rfl, i'⟩ | ⟨b, cs, lo, hi, rfl, i', r1, r2, r3, r4, r5⟩⟩
  · exact hn rfl rfl rfl w i'
  · exact hc b cs lo hi hf rfl r1 r2 r3 r4 r5 w i'

/-- An element of a row. -/
theorem row_elem {cs : List Value} {xs : List (List Value)} {s : Nat} (hf : Flat s xs) (ht : cs.take (xs.length * s) = xs.flatten) {i : Nat} {x : List Value} (hx : xs[i]? = some x) : (cs.drop (i * s)).take s = x := by
  have hlt := (List.getElem?_eq_some_iff.1 hx).1
  have h1 := hf.get hx
  rw [← ht, List.drop_take, List.take_take] at h1
  have : min s (xs.length * s - i * s) = s := by
    rw [← Nat.sub_mul]
    have : 1 ≤ xs.length - i := by omega
    have := Nat.mul_le_mul_right s this
    omega
  rwa [this] at h1

/-! ### append -/
/-- What is known of an element type: `info`. -/
structure Elt (P : Program) (t e : TypeId) (s bytes : Nat) (z : List Value) : Prop where
  sl : P.underlying t = some (.slice e)
  info : ∃ i v, P.info? e = some i ∧ i.zero = some v ∧ i.size = s ∧ i.bytes = bytes ∧ v.cells = z.toArray
  len : z.length = s
  pos : 0 < s

theorem Elt.mk' {P : Program} {t e : TypeId} {s bytes : Nat} {z : List Value} {i : TypeInfo} {v : Value} (h1 : P.underlying t = some (.slice e)) (h2 : P.info? e = some i) (h3 : i.zero = some v) (h4 : i.size = s) (h5 : i.bytes = bytes) (h6 : v.cells = z.toArray) (h7 : z.length = s) (h8 : 0 < s) : Elt P t e s bytes z :=
  ⟨h1, ⟨i, v, h2, h3, h4, h5, h6⟩, h7, h8⟩

theorem run_storeCells0 {P : Program} {vs : List Value} {w : World} {b off : Nat} {cs : List Value} {e : TypeId} {lo hi : Nat} (h : w.heap[b]? = some (.cells cs.toArray e (lo, hi))) (hf : hi ≤ off ∨ hi ≤ lo ∨ off + vs.length ≤ lo)
    (hl : off + vs.length ≤ cs.length) (hv : ∀ v ∈ vs, v.oneCell' = true) : (storeCells ⟨b, off, none⟩ vs).run P w = .ok () (setBlk w b (.cells (splice cs off vs).toArray e (lo, hi))) := by
  have := run_storeRow (P := P) vs (i := 0) h (by simpa using hf) (by simpa using hl) hv
  simpa using this

theorem loads_of {w : World} {b off : Nat} {cs vs : List Value} {e : TypeId} {fr : Nat × Nat} (hb : w.heap[b]? = some (.cells cs.toArray e fr)) (hv : (cs.drop off).take vs.length = vs) :
    ∀ j v, vs[j]? = some v → w.cell? ((⟨b, off, none⟩ : Addr).add j) = some v := by
  intro j v hj
  rw [add_off, cell_of hb]
  have hj' : j < vs.length := (List.getElem?_eq_some_iff.1 hj).1
  rw [← hv, List.getElem?_take_of_lt hj', List.getElem?_drop] at hj
  exact hj

theorem run_app_room {P : Program} {t e ty : TypeId} {s bytes : Nat} {z : List Value} (E : Elt P t e s bytes z) {w : World} {g n cap m c : Nat} {cs : List Value} {e' : TypeId} {lo hi : Nat} {news : List Value} {a : Addr}
    (hg : w.heap[g]? = some (.cells cs.toArray e' (lo, hi))) (hfr : hi ≤ lo ∨ (n + m) * s ≤ lo) (hl : news.length = m * s) (hnews : ∀ j u, news[j]? = some u → w.cell? (a.add j) = some u) (h1 : ∀ u ∈ news, u.oneCell' = true)
    (hroom : n + m ≤ cap) (hfit : n * s + news.length ≤ cs.length) :
    (Builtin.append_ #[t, t] ty #[.slice (some ⟨g, 0, none⟩) n cap, .slice (some a) m c]).run P w = .ok (.slice (some ⟨g, 0, none⟩) (n + m) cap) (setBlk w g (.cells (splice cs (n * s) news).toArray e' (lo, hi))) := by
  obtain ⟨i, v, hi1, hz, hs, _, _⟩ := E.info
  subst hs
  have hf := run_firstCells_some (P := P) w i.size m a m c news hl hnews
  have hst := run_storeCells0 (P := P) (off := n * i.size) hg (by rw [Nat.add_mul] at hfr; omega) hfit h1
  simp [Builtin.append_, run_underlying E.sl, sizeOf, typeInfo, hi1, Builtin.lenOf, hroom, hf, Addr.add_lit, hst]

theorem splice_take {cs news : List Value} {k : Nat} (h : k + news.length ≤ cs.length) : (splice cs k news).take (k + news.length) = cs.take k ++ news := by
  unfold splice
  rw [List.take_append_of_le_length (by simp; omega)]
  exact List.take_of_length_le (by simp; omega)
theorem splice_length {cs news : List Value} {k : Nat} (h : k + news.length ≤ cs.length) : (splice cs k news).length = cs.length := by
  unfold splice; simp; omega

/-- append to a slice that is owned. -/
theorem run_app {P : Program} {t e ty : TypeId} {s bytes : Nat} {z : List Value} (E : Elt P t e s bytes z) {C : Cx} {hs hs1 : List Assn} {w : World} {a : Option Addr} {cap m c : Nat} {xs ys : List (List Value)} {ad : Addr}
    (tk : Take (row a cap e s xs) hs hs1) (hi : C.inv hs w) (hfy : Flat s ys) (hm : ys.length = m) (hnews : ∀ w, C.inv hs w → ∀ j u, ys.flatten[j]? = some u → w.cell? (ad.add j) = some u) (h1 : ∀ u ∈ ys.flatten, u.oneCell' = true)
    (hbig : (xs.length + m) * bytes ≤ 140737488355328) (hbig' : xs.length + m ≤ maxLen) :
    ∃ a' cap' w', (Builtin.append_ #[t, t] ty #[.slice a xs.length cap, .slice (some ad) m c]).run P w = .ok (.slice a' (xs ++ ys).length cap') w' ∧ C.inv (row a' cap' e s (xs ++ ys) :: hs1) w' := by
  have hn := hnews w hi
  obtain ⟨i, v, hi1, hz, hsz, hby, hzc⟩ := E.info
  have hlen : (xs ++ ys).length = xs.length + m := by simp [hm]
  have hyl : ys.flatten.length = m * s := by rw [hfy.length, hm]
  have hzs : v.cells.size = s := by rw [hzc]; simpa using E.len
  have h63 : ((xs.length + m : Nat) : Int) ≤ 9223372036854775807 := by simp only [maxLen] at hbig'; omega
  have hcell : ∀ k, (Builtin.zeroCells v.cells k).toList.length = k * s := fun k => by rw [Array.length_toList, size_zeroCells, hzs]
  rcases row_open tk hi with ⟨hf, ⟨rfl, rfl, rfl, hi'⟩ | ⟨b, cs, lo, hi2, rfl, hi', r1, r2, r3, r4, r5⟩⟩
  · by_cases hm0 : m = 0
    · subst hm0
      have hy0 : ys = [] := List.eq_nil_of_length_eq_zero hm
      subst hy0
      refine ⟨none, 0, w, ?_, ?_⟩
      · simp [Builtin.append_, run_underlying E.sl, sizeOf, typeInfo, hi1, Builtin.lenOf, Builtin.firstCells, loadCells, loadCellsFrom]
      · exact hi'.mono fun h st => row_nil e s st
    have hpos : 0 < m := by omega
    have hr := run_append_nil (P := P) w t ty e i v E.sl hi1 hz ad m c ys.flatten (by rw [hyl, hsz]) hn hpos (by simpa using h63) (by rw [hby]; simp at hbig; omega)
    refine ⟨_, _, _, by rw [hlen]; simpa using hr, ?_⟩
    have hal := (Inv.drew hi').alloc (.cells (ys.flatten.toArray ++ Builtin.zeroCells v.cells (grownCap w m 0 e - m)) e)
    have hge := grownCap_ge w m 0 e
    refine hal.mono fun h st => ?_
    have hcs : (ys.flatten.toArray ++ Builtin.zeroCells v.cells (grownCap w m 0 e - m)) = (ys.flatten ++ (Builtin.zeroCells v.cells (grownCap w m 0 e - m)).toList).toArray := by simp
    rw [hcs] at st
    refine row_mk (by simpa using hfy) (.inl (Nat.le_refl _)) ?_ (by rw [hlen]; simpa using hge) (grownCap_le_maxLen w m 0 e (by simpa using hbig')) ?_ st
    · rw [List.length_append, hyl, hcell, ← Nat.add_mul]; congr 1; omega
    · simp only [List.nil_append, hm]
      rw [← hyl]; exact List.take_left
  · by_cases hroom : xs.length + m ≤ cap
    · have hg := Blk.inv .own hi'
      have hms : (xs.length + m) * s ≤ cap * s := Nat.mul_le_mul_right _ hroom
      have hfit : xs.length * s + ys.flatten.length ≤ cs.length := by rw [hyl, r2, ← Nat.add_mul]; exact hms
      have hr := run_app_room (P := P) (ty := ty) E (c := c) hg (by omega) hyl hn h1 hroom hfit
      refine ⟨_, _, _, by rw [hlen]; exact hr, ?_⟩
      refine (hi'.upd .here).mono fun h st => ?_
      refine row_mk ?_ r1 (by rw [splice_length hfit, r2]) (by rw [hlen]; exact hroom) r4 ?_ st
      · intro x hx
        rcases List.mem_append.1 hx with hx | hx
        · exact hf x hx
        · exact hfy x hx
      · rw [hlen, Nat.add_mul, ← hyl, splice_take hfit, r5]; simp
    · have hg := Blk.inv .own hi'
      have hxl : xs.flatten.length = xs.length * s := hf.length
      have holds : ∀ j u, xs.flatten[j]? = some u → w.cell? ((⟨b, 0, none⟩ : Addr).add j) = some u :=
        loads_of hg (by rw [List.drop_zero, hxl]; exact r5)
      have hr := run_append_grow (P := P) w t ty e i v E.sl hi1 hz ⟨b, 0, none⟩ xs.length cap xs.flatten (by rw [hxl, hsz]) holds ad m c ys.flatten (by rw [hyl, hsz]) hn (by omega) h63 (by rw [hby]; exact growslice_fits (by omega) hbig)
      refine ⟨_, _, _, by rw [hlen]; exact hr, ?_⟩
      have hi3 : Inv C.h0 C.w0 hs1 w.drew := (Inv.drew hi').mono fun _ st => st.tail
      have hal := hi3.alloc (.cells (xs.flatten.toArray ++ ys.flatten.toArray ++ Builtin.zeroCells v.cells (grownCap w (xs.length + m) cap e - (xs.length + m))) e)
      have hge := grownCap_ge w (xs.length + m) cap e
      refine hal.mono fun h st => ?_
      have hcs : (xs.flatten.toArray ++ ys.flatten.toArray ++ Builtin.zeroCells v.cells (grownCap w (xs.length + m) cap e - (xs.length + m))) = (xs.flatten ++ ys.flatten ++ (Builtin.zeroCells v.cells (grownCap w (xs.length + m) cap e - (xs.length + m))).toList).toArray := by simp
      rw [hcs] at st
      refine row_mk ?_ (.inl (Nat.le_refl _)) ?_ (by rw [hlen]; exact hge) (grownCap_le_maxLen w (xs.length + m) cap e hbig') ?_ st
      · intro x hx
        rcases List.mem_append.1 hx with hx | hx
        · exact hf x hx
        · exact hfy x hx
      · rw [List.length_append, List.length_append, hxl, hyl, hcell, ← Nat.add_mul, ← Nat.add_mul]; congr 1; omega
      · rw [hlen, Nat.add_mul, ← hxl, ← hyl, ← List.length_append, List.take_left]; simp

section
variable {P : Program} {C : Cx} {hs hs1 : List Assn} {ρ : Env} {d : Option Tmp} {ty : TypeId} {pos : String} {af : Array Edge} {g : Option (Nat × Bool)} {K : Value → List Assn → Prop}
  {x y z : Operand} {v u : Value} {t e : TypeId} {s bytes : Nat} {zs : List Value}

/-- append of a slice's elements: `src` tells what they are. -/
theorem Ef.app (E : Elt P t e s bytes zs) {a : Option Addr} {cap m c b off : Nat} {xs : List (List Value)} (ys : List (List Value)) {cs : List Value} {e' : TypeId} {fr : Nat × Nat}
    (h1 : Ev C.n ρ x (.slice a xs.length cap)) (h2 : Ev C.n ρ y (.slice (some ⟨b, off, none⟩) m c)) (tk : Take (row a cap e s xs) hs hs1) (hb : Blk b (.cells cs.toArray e' fr) hs)
    (hfy : Flat s ys) (hm : ys.length = m) (hsrc : (cs.drop off).take (m * s) = ys.flatten) (ho : ∀ u ∈ ys.flatten, u.oneCell' = true) (hbig : (xs.length + m) * bytes ≤ 140737488355328) (hbig' : xs.length + m ≤ maxLen)
    (k : ∀ a' cap', K (.slice a' (xs ++ ys).length cap') (row a' cap' e s (xs ++ ys) :: hs1)) :
    Ef P C hs ρ ⟨d, .call { callee := .builtin .append, args := #[x, y], argTypes := #[t, t] }, ty, pos, af, g⟩ K := fun w hi => by
  obtain ⟨a', cap', w', hr, hi'⟩ := run_app (ty := ty) (c := c) E tk hi hfy hm (fun w hi => loads_of (off := off) (hb.inv hi) (by rw [hfy.length, hm]; exact hsrc)) ho hbig hbig'
  refine .inl ⟨_, _, w', .inl ?_, hi', k a' cap'⟩
  rw [Oper.semAt_eq _ _ _ (fun c h => by cases h)]
  show (execOp (act C.n C.ds ρ).eval _).run P w = _
  simp only [execOp, resolve, invoke, builtin]
  simp [h1 C.ds, h2 C.ds, hr, Result.andThen]

/-- append of one element, out of the block that the composite literal has just made. -/
theorem Ef.app1 (E : Elt P t e s bytes zs) {a : Option Addr} {cap b : Nat} {xs : List (List Value)} {cs : List Value} {e' : TypeId} {fr : Nat × Nat}
    (h1 : Ev C.n ρ x (.slice a xs.length cap)) (h2 : Ev C.n ρ y (.slice (some ⟨b, 0, none⟩) 1 1)) (tk : Take (row a cap e s xs) hs hs1) (hb : Blk b (.cells cs.toArray e' fr) hs)
    (hl : cs.length = s) (ho : ∀ u ∈ cs, u.oneCell' = true) (hbig : (xs.length + 1) * bytes ≤ 140737488355328) (hbig' : xs.length + 1 ≤ maxLen)
    (k : ∀ a' cap', K (.slice a' (xs ++ [cs]).length cap') (row a' cap' e s (xs ++ [cs]) :: hs1)) :
    Ef P C hs ρ ⟨d, .call { callee := .builtin .append, args := #[x, y], argTypes := #[t, t] }, ty, pos, af, g⟩ K :=
  Ef.app E [cs] h1 h2 tk hb (by intro x hx; simp at hx; rw [hx, hl]) rfl (by simp [← hl]) (by simpa using ho) hbig hbig' k

/-- A composite literal of one-cell elements. -/
theorem Ef.slit {parts : List (Nat × Operand)} {vs : List (Nat × Value)} {zc cs : List Value} {pl : List (Nat × Nat)} {n : Nat} (h : EvP C.n ρ parts vs)
    (hb : ∀ (c : Array Value), Instr.fill (pl.toArray[·]?) zc.toArray vs = some c → ∀ w, (Instr.buildSlice t n vs.toArray).run P w = .ok (.slice (some ⟨w.heap.size, 0, none⟩) n n) (w.alloc (.cells c e))) (hf : FillN pl zc vs cs)
    (k : ∀ b, K (.slice (some ⟨b, 0, none⟩) n n) (pts b (.cells cs.toArray e) :: hs)) : Ef P C hs ρ ⟨d, .buildSlice t n parts.toArray, ty, pos, af, g⟩ K :=
  Ef.ex (fun c h => by cases h) (Instr.buildSlice t n vs.toArray) (fun ds => by
    have := h.map ds
    simp only [execOp]
    rw [this]) fun w hi => ⟨_, _, _, hb _ hf.run w, hi.alloc _, k _⟩
end

theorem slit_run {P : Program} {t e : TypeId} {s bytes : Nat} {zs : List Value} (E : Elt P t e s bytes zs) (n : Nat) (hn : n * s ≤ 2 ^ 24) (hpos : 0 < n) (vs : List (Nat × Value)) (c : Array Value)
    (h : Instr.fill (fun i => some (i * s, s)) ((Array.range (n * s)).map (zs.toArray[· % zs.length]!)) vs = some c) (w : World) :
    (Instr.buildSlice t n vs.toArray).run P w = .ok (.slice (some ⟨w.heap.size, 0, none⟩) n n) (w.alloc (.cells c e)) := by
  obtain ⟨i, v, hi1, hz, hsz, hby, hzc⟩ := E.info
  subst hsz
  have hne : n * i.size ≠ 0 := Nat.mul_ne_zero (by omega) (by have := E.pos; omega)
  simp only [Instr.buildSlice, Sem.run_bind, run_underlying E.sl, sizeOf, typeInfo, zeroValue, program, Sem.run, hi1, hz, Result.andThen, Sem.run_pure]
  rw [if_neg (by omega)]
  simp only [Sem.run_bind, Sem.run_pure, Result.andThen, hi1, hz, if_neg hne, program, Sem.run, hzc, List.size_toArray]
  rw [h]
  rfl

end Go.Proofs.Ytfnoaohbjlnkgaa
