/-
  Arrays, slice expressions, bytes and strings: rules. No program in it.
-/
import Derived.Test.YtfnoaohbjlnkgaaA8
namespace Go.Proofs.Ytfnoaohbjlnkgaa

/-! ### arrays compared -/
section
variable {P : Program}

theorem run_equal_array {t e : TypeId} {n : Nat} {q : IntKind} (hu : ∀ w, (underlying t).run P w = .ok (.array n e) w) (he : ∀ w, (underlying e).run P w = .ok (.int q) w) (ha : ∀ w, (isAgg e).run P w = .ok false w) (hz : ∀ w, (sizeOf e).run P w = .ok 1 w)
    {xs ys : List UInt8} (hx : xs.length = n) (hy : ys.length = n) (w : World) : (Op.equal t (.agg (bv xs).toArray) (.agg (bv ys).toArray)).run P w = .ok (decide (xs = ys)) w := by
  have hpart : ∀ (l : List UInt8) (i : Nat) (hi : i < l.length) (w : World), (part e (bv l).toArray (i * 1)).run P w = .ok (.int .u8 (l[i].toNat : Int)) w := by
    intro l i hi w
    have hg : (bv l).toArray[i * 1]? = some (.int .u8 (l[i].toNat : Int)) := by simp [bv, hi]
    simp only [part, Sem.run_bind, ha w, Result.andThen, hg]
    rfl
  have heq : ∀ (i : Nat) (h1 : i < xs.length) (h2 : i < ys.length) (w : World), (Op.equalIn 9999 e (.int .u8 (xs[i].toNat : Int)) (.int .u8 (ys[i].toNat : Int))).run P w = .ok (decide (xs[i] = ys[i])) w := by
    intro i h1 h2 w
    show (Op.equalIn (9998 + 1) e _ _).run P w = _
    unfold Op.equalIn
    rw [Sem.run_bind, he w]
    simp only [Result.andThen, if_true]
    show Result.ok (((xs[i].toNat : Int) == (ys[i].toNat : Int))) w = _
    congr 1
    by_cases h : xs[i] = ys[i]
    · simp [h]
    · have : ¬ ((xs[i].toNat : Int) = (ys[i].toNat : Int)) := fun e => h (u8_of e)
      simp [h, this]
  have hl : ∀ (k i : Nat), i + k = n → (forIn (m := Sem) (List.range' i k) ((none, ()) : Option Bool × PUnit) fun i r => do
      if (!(← Op.equalIn 9999 e (← part e (bv xs).toArray (i * 1)) (← part e (bv ys).toArray (i * 1)))) = true then pure (ForInStep.done ((some false, ()) : Option Bool × PUnit)) else pure (ForInStep.yield (none, ()))).run P w =
      .ok (if xs.drop i = ys.drop i then (none, ()) else (some false, ())) w := by
    intro k
    induction k with
    | zero =>
      intro i hi
      have h1 : xs.drop i = [] := List.drop_of_length_le (by omega)
      have h2 : ys.drop i = [] := List.drop_of_length_le (by omega)
      rw [h1, h2]; rfl
    | succ k ih =>
      intro i hi
      have h1 : i < xs.length := by omega
      have h2 : i < ys.length := by omega
      rw [List.range'_succ, List.forIn_cons]
      simp only [Sem.run_bind, hpart xs i h1, hpart ys i h2, heq i h1 h2, Result.andThen]
      rw [List.drop_eq_getElem_cons h1, List.drop_eq_getElem_cons h2]
      by_cases hb : xs[i] = ys[i]
      · have := ih (i + 1) (by omega)
        simp only [hb, decide_true, Bool.not_true, Bool.false_eq_true, if_false, Sem.run_pure, Result.andThen, this, List.cons.injEq, true_and]
      · simp only [hb, decide_false, Bool.not_false, if_true, Sem.run_pure, Result.andThen, List.cons.injEq, false_and, if_false]
  have h0 := hl n 0 (by omega)
  show (Op.equalIn (9999 + 1) t _ _).run P w = _
  unfold Op.equalIn
  rw [Sem.run_bind, hu w]
  simp only [Result.andThen, Sem.run_bind, hz w]
  rw [Std.Legacy.Range.forIn_eq_forIn_range']
  simp only [Std.Legacy.Range.size, Nat.sub_zero, Nat.add_sub_cancel, Nat.div_one]
  rw [h0]
  simp only [List.drop_zero]
  by_cases h : xs = ys
  · simp [h]
  · simp [h]
end

section
variable {P : Program} {C : Cx} {hs hs1 : List Assn} {ρ : Env} {d : Option Tmp} {ty : TypeId} {pos : String} {af : Array Edge} {g : Option (Nat × Bool)} {K : Value → List Assn → Prop}
  {x y z : Operand} {v u : Value} {t t' e : TypeId} {s bytes n : Nat} {q : IntKind} {zs : List Value}

theorem run_eqGuardA {op : BinOp} {a b : Array Value} (hg : P.eqGuardType P.depth t = false) (w : World) : (eqGuard op t x y (.agg a) (.agg b)).run P w = .ok () w := by
  unfold eqGuard
  cases op <;> first | rfl | simp [Sem.run_bind, program, Sem.run, Result.andThen, hg]

theorem Rd.eqlA {xs ys : List UInt8} (h1 : Ev C.n ρ x (.agg (bv xs).toArray)) (h2 : Ev C.n ρ y (.agg (bv ys).toArray)) (hg : P.eqGuardType P.depth t = false) (hu : ∀ w, (underlying t).run P w = .ok (.array n e) w)
    (he : ∀ w, (underlying e).run P w = .ok (.int q) w) (ha : ∀ w, (isAgg e).run P w = .ok false w) (hz : ∀ w, (sizeOf e).run P w = .ok 1 w) (hx : xs.length = n) (hy : ys.length = n) :
    Rd P C hs ρ ⟨d, .binOp .eql t x y t', ty, pos, af, g⟩ (.bool (decide (xs = ys))) :=
  Rd.cmp h1 h2 (fun w => run_eqGuardA hg w) fun w _ => by
    show (do pure (Value.bool (← Op.equal t _ _)) : Sem Value).run P w = _
    rw [Sem.run_bind, run_equal_array hu he ha hz hx hy]; rfl
theorem Rd.neqA {xs ys : List UInt8} (h1 : Ev C.n ρ x (.agg (bv xs).toArray)) (h2 : Ev C.n ρ y (.agg (bv ys).toArray)) (hg : P.eqGuardType P.depth t = false) (hu : ∀ w, (underlying t).run P w = .ok (.array n e) w)
    (he : ∀ w, (underlying e).run P w = .ok (.int q) w) (ha : ∀ w, (isAgg e).run P w = .ok false w) (hz : ∀ w, (sizeOf e).run P w = .ok 1 w) (hx : xs.length = n) (hy : ys.length = n) :
    Rd P C hs ρ ⟨d, .binOp .neq t x y t', ty, pos, af, g⟩ (.bool (decide (xs ≠ ys))) :=
  Rd.cmp h1 h2 (fun w => run_eqGuardA hg w) fun w _ => by
    show (do pure (Value.bool (!(← Op.equal t _ _))) : Sem Value).run P w = _
    rw [Sem.run_bind, run_equal_array hu he ha hz hx hy, decide_not]; rfl

/-! ### slices out of nothing, out of arrays, out of slices -/
theorem range_rep {z : Value} (n : Nat) : (Array.range n).map (fun i => (#[z] : Array Value)[i % #[z].size]!) = (List.replicate n z).toArray := by
  apply Array.ext
  · simp
  · intro i h1 h2
    simp at h1
    simp [Nat.mod_one]

theorem Ef.mkslice {zv : Value} {l c : Nat} {i : TypeInfo} (hu : ∀ w, (underlying t).run P w = .ok (.slice e) w) (hi : ∀ w, (typeInfo e).run P w = .ok i w) (hz : ∀ w, (sizeOf e).run P w = .ok 1 w) (hzv : ∀ w, (zeroValue e).run P w = .ok zv w) (hc : zv.cells = #[zv])
    (h1 : Ev C.n ρ x (.int .i64 l)) (h2 : Ev C.n ρ y (.int .i64 c)) (hlc : l ≤ c) (hb : i.bytes * c ≤ 140737488355328) (hc0 : 0 < c) (hc1 : c ≤ maxLen)
    (k : ∀ b, K (.slice (some ⟨b, 0, none⟩) l c) (pts b (.cells (List.replicate c zv).toArray e) :: hs)) : Ef P C hs ρ ⟨d, .makeSlice t x y, ty, pos, af, g⟩ K :=
  Ef.ex (fun c h => by cases h) (Instr.makeSlice t (.int .i64 l) (.int .i64 c)) (fun ds => by simp only [execOp, h1 ds, h2 ds]) fun w hi' => by
    refine ⟨_, w.alloc (.cells (List.replicate c zv).toArray e), _, ?_, hi'.alloc _, k _⟩
    have hw1 : IntKind.i64.wrap (l : Int) = l := w64 (by omega) (by simp only [maxLen] at hc1; omega)
    have hw2 : IntKind.i64.wrap (c : Int) = c := w64 (by omega) (by simp only [maxLen] at hc1; omega)
    have ht0 : ((i.bytes * c : Nat) : Int) ≤ 140737488355328 := by omega
    have ht1 : (i.bytes : Int) * (c : Int) ≤ 140737488355328 := by simpa using ht0
    have htl : ((decide ((c : Int) < 0)) || decide ((i.bytes : Int) * (c : Int) > 2 ^ 48)) = false := by
      simp only [Bool.or_eq_false_iff, decide_eq_false_iff_not]; omega
    have hcnd : (((decide ((c : Int) < 0)) || decide ((i.bytes : Int) * (c : Int) > 2 ^ 48)) || decide ((l : Int) < 0) || decide ((l : Int) > (c : Int))) = false := by
      rw [htl]
      simp only [Bool.false_or, Bool.or_eq_false_iff, decide_eq_false_iff_not]; omega
    have hroom : ∀ n w, (askRoom n).run P w = .ok () w := fun n w => by unfold askRoom; split <;> rfl
    simp only [Instr.makeSlice, Sem.run_bind, hu w, Result.andThen, asInt, asIntOf, Sem.run_pure, hi w, hw1, hw2]
    simp only [hcnd, Bool.false_eq_true, if_false, Sem.run_bind, hroom, Result.andThen, hz w, Int.toNat_natCast, Nat.mul_one]
    rw [if_neg (by omega)]
    simp only [Sem.run_bind, hzv w, Result.andThen, Sem.run_pure, hc, range_rep]
    rfl

theorem Rd.sliceAll {b off : Nat} (hu : ∀ w, (underlying t).run P w = .ok (.array n e) w) (hz : ∀ w, (sizeOf e).run P w = .ok s w) (h : Ev C.n ρ x (.pointer (some ⟨b, off, none⟩))) (hn : 0 < n) :
    Rd P C hs ρ ⟨d, .slice t x none none none, ty, pos, af, g⟩ (.slice (some ⟨b, off, none⟩) n n) :=
  Rd.ex (fun c h => by cases h) (Instr.sliceAt t (.pointer (some ⟨b, off, none⟩)) none none none) (fun ds => by simp only [execOp, h ds, Option.map_none]) fun w _ => by
    simp only [Instr.sliceAt, Sem.run_bind, hu w, Result.andThen, Instr.sureAddr, Instr.sliceBounds, Sem.run_pure, hz w]
    rw [if_neg (by omega), Nat.zero_mul]; rfl
/-- 'a[:h]' of an array. -/
theorem Rd.sliceTo {b off : Nat} {i : Int} {k : IntKind} (hu : ∀ w, (underlying t).run P w = .ok (.array n e) w) (hz : ∀ w, (sizeOf e).run P w = .ok s w) (h : Ev C.n ρ x (.pointer (some ⟨b, off, none⟩))) (hy : Ev C.n ρ y (.int k i)) (h0 : 0 ≤ i) (h1 : i ≤ n) (hn : 0 < n) :
    Rd P C hs ρ ⟨d, .slice t x none (some y) none, ty, pos, af, g⟩ (.slice (some ⟨b, off, none⟩) i.toNat n) :=
  Rd.ex (fun c h => by cases h) (Instr.sliceAt t (.pointer (some ⟨b, off, none⟩)) none (some (.int k i)) none) (fun ds => by simp only [execOp, h ds, hy ds, Option.map_none, Option.map_some]) fun w _ => by
    simp only [Instr.sliceAt, Sem.run_bind, hu w, Result.andThen, Instr.sureAddr, Instr.sliceBounds, Sem.run_pure, hz w, Instr.sliceBound, asIntOf, h0, h1, and_self, if_true]
    rw [if_neg (by omega), Nat.zero_mul]; rfl
theorem Rd.arrptr {a : Option Addr} {len cap : Nat} (hu : ∀ w, (underlying t).run P w = .ok (.array n e) w) (h : Ev C.n ρ x (.slice a len cap)) (hl : n ≤ len) : Rd P C hs ρ ⟨d, .sliceToArrayPointer t x, ty, pos, af, g⟩ (.pointer a) :=
  Rd.ex (fun c h => by cases h) (Instr.arrayAt t (.slice a len cap)) (fun ds => by simp only [execOp, h ds]) fun w _ => by
    simp only [Instr.arrayAt, Sem.run_bind, hu w, Result.andThen, Nat.not_lt.2 hl, if_false]; rfl

/-! ### strings -/
theorem bytes_eq {a b : List UInt8} : ((⟨a.toArray⟩ : ByteArray).toList == (⟨b.toArray⟩ : ByteArray).toList) = decide (a = b) := by
  rw [ByteArray.toList_eq, ByteArray.toList_eq]
  by_cases h : a = b
  · simp [h]
  · simp [h]
theorem Rd.str_eql {a b : List UInt8} (h1 : Ev C.n ρ x (str a)) (h2 : Ev C.n ρ y (str b)) : Rd P C hs ρ ⟨d, .binOp .eql t x y t', ty, pos, af, g⟩ (.bool (decide (a = b))) :=
  Rd.str2 h1 h2 fun w => by simp only [Op.stringOp, bytes_eq]; rfl
theorem Rd.str_neq {a b : List UInt8} (h1 : Ev C.n ρ x (str a)) (h2 : Ev C.n ρ y (str b)) : Rd P C hs ρ ⟨d, .binOp .neq t x y t', ty, pos, af, g⟩ (.bool (decide (a ≠ b))) :=
  Rd.str2 h1 h2 fun w => by simp only [Op.stringOp, bytes_eq, decide_not]; rfl
theorem Rd.str_add {a b : List UInt8} (h1 : Ev C.n ρ x (str a)) (h2 : Ev C.n ρ y (str b)) (hl : a.length + b.length ≤ 9223372036854775807) : Rd P C hs ρ ⟨d, .binOp .add t x y t', ty, pos, af, g⟩ (str (a ++ b)) :=
  Rd.str2 h1 h2 fun w => by
    have e1 : (⟨a.toArray⟩ : ByteArray).size = a.length := by simp [ByteArray.size]
    have e2 : (⟨b.toArray⟩ : ByteArray).size = b.length := by simp [ByteArray.size]
    have hm : IntKind.i64.max = 9223372036854775807 := by decide
    have e3 : (⟨a.toArray⟩ ++ ⟨b.toArray⟩ : ByteArray) = ⟨(a ++ b).toArray⟩ := by
      apply ByteArray.ext
      simp
    simp only [Op.stringOp, e1, e2, hm]
    rw [if_neg (by omega), e3]; rfl
theorem str_size (a : List UInt8) : (⟨a.toArray⟩ : ByteArray).size = a.length := by simp [ByteArray.size]
theorem Rd.lenStr {xs : TypeId} {a : List UInt8} (hu : ∀ w, (underlying xs).run P w = .ok .string w) (h : Ev C.n ρ x (str a)) :
    Rd P C hs ρ ⟨d, .call { callee := .builtin .len, args := #[x], argTypes := #[xs] }, ty, pos, af, g⟩ (.int .i64 a.length) := by
  have := Rd.lenS (P := P) (C := C) (hs := hs) (d := d) (ty := ty) (pos := pos) (af := af) (g := g) hu h
  rwa [str_size] at this
theorem str_extract (a : List UInt8) (l h : Nat) : (⟨a.toArray⟩ : ByteArray).extract l h = ⟨((a.take h).drop l).toArray⟩ := by
  apply ByteArray.ext
  rw [ByteArray.data_extract]
  simp [List.extract_eq_take_drop, List.drop_take]

/-- 'string(b)'. -/
theorem Rd.bytesStr {b off cap : Nat} {l : List UInt8} {cs : List Value} {e' : TypeId} {fr : Nat × Nat} (hs1 : P.underlying t = some (.slice e)) (he : P.underlying e = some (.int .u8)) (hd : P.underlying t' = some .string)
    {m : Nat} (h : Ev C.n ρ x (.slice (some ⟨b, off, none⟩) m cap)) (hb : Blk b (.cells cs.toArray e' fr) hs) (hv : (cs.drop off).take m = bv l) (hm : m = l.length) :
    Rd P C hs ρ ⟨d, .convert t t' x, ty, pos, af, g⟩ (str l) :=
  Rd.ex (fun c h => by cases h) (convert t t' (.slice (some ⟨b, off, none⟩) l.length cap)) (fun ds => by subst hm; simp only [execOp, h ds]) fun w hi => by
    refine run_convert_bytes_back w t t' e ⟨b, off, none⟩ cap l hs1 he hd fun j hj => ?_
    have hl : ∀ j v, (bv l)[j]? = some v → w.cell? ((⟨b, off, none⟩ : Addr).add j) = some v := loads_of (hb.inv hi) (by rw [bv_length, ← hm]; exact hv)
    exact hl j _ (by simp [bv, hj])
theorem Rd.bytesStr0 {l c : Nat} (hs1 : P.underlying t = some (.slice e)) (he : P.underlying e = some (.int .u8)) (hd : P.underlying t' = some .string) (h : Ev C.n ρ x (.slice none l c)) :
    Rd P C hs ρ ⟨d, .convert t t' x, ty, pos, af, g⟩ (str []) :=
  Rd.ex (fun c h => by cases h) (convert t t' (.slice none l c)) (fun ds => by simp only [execOp, h ds]) fun w _ => by
    simp [convert, Sem.run_bind, run_underlying hs1, run_underlying he, run_underlying hd, Result.andThen, Conv.bytesToString]
    rfl
end
end Go.Proofs.Ytfnoaohbjlnkgaa
