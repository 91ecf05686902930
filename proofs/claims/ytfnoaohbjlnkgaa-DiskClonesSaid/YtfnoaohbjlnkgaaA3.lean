/-
  The rules of the operations. No program in it.
-/
import Derived.Test.YtfnoaohbjlnkgaaA2
namespace Go.Proofs.Ytfnoaohbjlnkgaa

section
variable {P : Program} {C : Cx} {hs : List Assn} {ρ : Env} {d : Option Tmp} {ty : TypeId} {pos : String} {af : Array Edge} {g : Option (Nat × Bool)} {K : Value → List Assn → Prop}
  {x y z : Operand} {v u : Value} {t : TypeId}

theorem Rd.ex {op : Op} (hnd : ∀ c, op ≠ .defer c) (s : Sem Value) (he : ∀ ds, execOp (act C.n ds ρ).eval ⟨d, op, ty, pos, af, g⟩ = (do pure (.value (← s)))) (h : ∀ w, C.inv hs w → s.run P w = .ok v w) :
    Rd P C hs ρ ⟨d, op, ty, pos, af, g⟩ v :=
  Rd.of hnd fun w hi => by
    show (execOp (act C.n C.ds ρ).eval _).run P w = _
    rw [he, Sem.run_bind, h w hi]; rfl

theorem Ef.ex {op : Op} (hnd : ∀ c, op ≠ .defer c) (s : Sem Value) (he : ∀ ds, execOp (act C.n ds ρ).eval ⟨d, op, ty, pos, af, g⟩ = (do pure (.value (← s))))
    (h : ∀ w, C.inv hs w → ∃ v w' hs', s.run P w = .ok v w' ∧ C.inv hs' w' ∧ K v hs') : Ef P C hs ρ ⟨d, op, ty, pos, af, g⟩ K := fun w hi => by
  obtain ⟨v, w', hs', a, b, c⟩ := h w hi
  refine .inl ⟨v, hs', w', .inl ?_, b, c⟩
  rw [Oper.semAt_eq _ _ _ hnd]
  show (execOp (act C.n C.ds ρ).eval _).run P w = _
  rw [he, Sem.run_bind, a]; rfl

theorem Ef.ex0 {op : Op} (hnd : ∀ c, op ≠ .defer c) (s : Sem Unit) (he : ∀ ds, execOp (act C.n ds ρ).eval ⟨d, op, ty, pos, af, g⟩ = (do s; pure .skip))
    (h : ∀ w, C.inv hs w → ∃ w' hs', s.run P w = .ok () w' ∧ C.inv hs' w' ∧ K undef hs') : Ef P C hs ρ ⟨d, op, ty, pos, af, g⟩ K := fun w hi => by
  obtain ⟨w', hs', a, b, c⟩ := h w hi
  refine .inl ⟨undef, hs', w', .inr ⟨?_, rfl⟩, b, c⟩
  rw [Oper.semAt_eq _ _ _ hnd]
  show (execOp (act C.n C.ds ρ).eval _).run P w = _
  rw [he, Sem.run_bind, a]; rfl

/-! ### moves, tests -/
theorem Rd.move (h : Ev C.n ρ x v) : Rd P C hs ρ ⟨d, .move x, ty, pos, af, g⟩ v := Rd.of (fun c h => by cases h) fun w _ => by
  show (execOp (act C.n C.ds ρ).eval _).run P w = _
  simp only [execOp, h C.ds]; rfl
theorem Rd.assign (h : Ev C.n ρ x v) : Rd P C hs ρ ⟨d, .assign x, ty, pos, af, g⟩ v := Rd.of (fun c h => by cases h) fun w _ => by
  show (execOp (act C.n C.ds ρ).eval _).run P w = _
  simp only [execOp, h C.ds]; rfl
theorem Rd.pickT (hc : Ev C.n ρ x (.bool true)) (h : Ev C.n ρ y v) : Rd P C hs ρ ⟨d, .pick x y z, ty, pos, af, g⟩ v := Rd.of (fun c h => by cases h) fun w _ => by
  show (execOp (act C.n C.ds ρ).eval _).run P w = _
  simp only [execOp, h C.ds, hc C.ds]; rfl
theorem Rd.pickF (hc : Ev C.n ρ x (.bool false)) (h : Ev C.n ρ z v) : Rd P C hs ρ ⟨d, .pick x y z, ty, pos, af, g⟩ v := Rd.of (fun c h => by cases h) fun w _ => by
  show (execOp (act C.n C.ds ρ).eval _).run P w = _
  simp only [execOp, h C.ds, hc C.ds]; rfl
theorem Rd.nil {a : Addr} (h : Ev C.n ρ x (.pointer (some a))) : Rd P C hs ρ ⟨d, .nilCheck x, ty, pos, af, g⟩ (.pointer (some a)) := Rd.of (fun c h => by cases h) fun w _ => by
  show (execOp (act C.n C.ds ρ).eval _).run P w = _
  simp only [execOp, h C.ds]; rfl
theorem Rd.nilf {f : FuncId} {a b : Array Value} (h : Ev C.n ρ x (.func (.func f) a b)) : Rd P C hs ρ ⟨d, .nilCheck x, ty, pos, af, g⟩ (.func (.func f) a b) := Rd.of (fun c h => by cases h) fun w _ => by
  show (execOp (act C.n C.ds ρ).eval _).run P w = _
  simp only [execOp, h C.ds]; rfl
theorem Rd.nily {l : Nat} {a b : Array Value} (h : Ev C.n ρ x (.func (.yield l) a b)) : Rd P C hs ρ ⟨d, .nilCheck x, ty, pos, af, g⟩ (.func (.yield l) a b) := Rd.of (fun c h => by cases h) fun w _ => by
  show (execOp (act C.n C.ds ρ).eval _).run P w = _
  simp only [execOp, h C.ds]; rfl
theorem Rd.not {b : Bool} (h : Ev C.n ρ x (.bool b)) : Rd P C hs ρ ⟨d, .unOp .not t x, ty, pos, af, g⟩ (.bool !b) :=
  Rd.ex (fun c h => by cases h) (Op.unary .not (.bool b)) (fun ds => by simp only [execOp, h ds]) (fun w _ => rfl)
theorem Rd.notD {p : Prop} [Decidable p] (h : Ev C.n ρ x (.bool (decide p))) : Rd P C hs ρ ⟨d, .unOp .not t x, ty, pos, af, g⟩ (.bool (decide (¬ p))) := by
  have := Rd.not (P := P) (C := C) (hs := hs) (d := d) (ty := ty) (pos := pos) (af := af) (g := g) (t := t) h
  rwa [← decide_not] at this

/-! ### integers -/
theorem Rd.bin {op : BinOp} {k k' : IntKind} {a b : Int} {t' : TypeId} (h1 : Ev C.n ρ x (.int k a)) (h2 : Ev C.n ρ y (.int k' b)) (hr : ∀ w, (binOp op t (.int k a) (.int k' b)).run P w = .ok v w) :
    Rd P C hs ρ ⟨d, .binOp op t x y t', ty, pos, af, g⟩ v :=
  Rd.ex (fun c h => by cases h) (do eqGuard op t x y (.int k a) (.int k' b); binOp op t (.int k a) (.int k' b)) (fun ds => by simp only [execOp, h1 ds, h2 ds])
    (fun w _ => by
      have : (eqGuard op t x y (.int k a) (.int k' b)).run P w = .ok () w := by unfold eqGuard; cases op <;> rfl
      rw [Sem.run_bind, this]; exact hr w)

theorem Rd.add {k : IntKind} {a b : Int} {t' : TypeId} (h1 : Ev C.n ρ x (.int k a)) (h2 : Ev C.n ρ y (.int k b)) (hw : k.wrap (a + b) = a + b) :
    Rd P C hs ρ ⟨d, .binOp .add t x y t', ty, pos, af, g⟩ (.int k (a + b)) := Rd.bin h1 h2 fun w => by simp [binOp, Op.intArith, hw]
theorem Rd.sub {k : IntKind} {a b : Int} {t' : TypeId} (h1 : Ev C.n ρ x (.int k a)) (h2 : Ev C.n ρ y (.int k b)) (hw : k.wrap (a - b) = a - b) :
    Rd P C hs ρ ⟨d, .binOp .sub t x y t', ty, pos, af, g⟩ (.int k (a - b)) := Rd.bin h1 h2 fun w => by simp [binOp, Op.intArith, hw]
theorem Rd.mul {k : IntKind} {a b : Int} {t' : TypeId} (h1 : Ev C.n ρ x (.int k a)) (h2 : Ev C.n ρ y (.int k b)) (hw : k.wrap (a * b) = a * b) :
    Rd P C hs ρ ⟨d, .binOp .mul t x y t', ty, pos, af, g⟩ (.int k (a * b)) := Rd.bin h1 h2 fun w => by simp [binOp, Op.intArith, hw]
theorem Rd.addW {k : IntKind} {a b : Int} {t' : TypeId} (h1 : Ev C.n ρ x (.int k a)) (h2 : Ev C.n ρ y (.int k b)) :
    Rd P C hs ρ ⟨d, .binOp .add t x y t', ty, pos, af, g⟩ (.int k (k.wrap (a + b))) := Rd.bin h1 h2 fun w => by simp [binOp, Op.intArith]
theorem Rd.subW {k : IntKind} {a b : Int} {t' : TypeId} (h1 : Ev C.n ρ x (.int k a)) (h2 : Ev C.n ρ y (.int k b)) :
    Rd P C hs ρ ⟨d, .binOp .sub t x y t', ty, pos, af, g⟩ (.int k (k.wrap (a - b))) := Rd.bin h1 h2 fun w => by simp [binOp, Op.intArith]
theorem Rd.mulW {k : IntKind} {a b : Int} {t' : TypeId} (h1 : Ev C.n ρ x (.int k a)) (h2 : Ev C.n ρ y (.int k b)) :
    Rd P C hs ρ ⟨d, .binOp .mul t x y t', ty, pos, af, g⟩ (.int k (k.wrap (a * b))) := Rd.bin h1 h2 fun w => by simp [binOp, Op.intArith]
/-- '/' and '%' of numbers that are not negative. -/
theorem Rd.quo {k : IntKind} {a b : Int} {t' : TypeId} (h1 : Ev C.n ρ x (.int k a)) (h2 : Ev C.n ρ y (.int k b)) (ha : 0 ≤ a) (hb : 0 < b) (hw : k.wrap (a / b) = a / b) :
    Rd P C hs ρ ⟨d, .binOp .quo t x y t', ty, pos, af, g⟩ (.int k (a / b)) := Rd.bin h1 h2 fun w => by
  simp [binOp, Op.intDiv, show b ≠ 0 by omega, Int.tdiv_eq_ediv_of_nonneg ha, hw]
theorem Rd.rem {k : IntKind} {a b : Int} {t' : TypeId} (h1 : Ev C.n ρ x (.int k a)) (h2 : Ev C.n ρ y (.int k b)) (ha : 0 ≤ a) (hb : 0 < b) :
    Rd P C hs ρ ⟨d, .binOp .rem t x y t', ty, pos, af, g⟩ (.int k (a % b)) := Rd.bin h1 h2 fun w => by
  simp [binOp, Op.intDiv, show b ≠ 0 by omega, Int.tmod_eq_emod_of_nonneg ha]
theorem Rd.remT {k : IntKind} {a b : Int} {t' : TypeId} (h1 : Ev C.n ρ x (.int k a)) (h2 : Ev C.n ρ y (.int k b)) (hb : b ≠ 0) :
    Rd P C hs ρ ⟨d, .binOp .rem t x y t', ty, pos, af, g⟩ (.int k (a.tmod b)) := Rd.bin h1 h2 fun w => by
  simp [binOp, Op.intDiv, hb]
theorem Rd.lss {k : IntKind} {a b : Int} {t' : TypeId} (h1 : Ev C.n ρ x (.int k a)) (h2 : Ev C.n ρ y (.int k b)) :
    Rd P C hs ρ ⟨d, .binOp .lss t x y t', ty, pos, af, g⟩ (.bool (decide (a < b))) := Rd.bin h1 h2 fun w => by simp [binOp, Op.intCmp]
theorem Rd.leq {k : IntKind} {a b : Int} {t' : TypeId} (h1 : Ev C.n ρ x (.int k a)) (h2 : Ev C.n ρ y (.int k b)) :
    Rd P C hs ρ ⟨d, .binOp .leq t x y t', ty, pos, af, g⟩ (.bool (decide (a ≤ b))) := Rd.bin h1 h2 fun w => by simp [binOp, Op.intCmp]
theorem Rd.gtr {k : IntKind} {a b : Int} {t' : TypeId} (h1 : Ev C.n ρ x (.int k a)) (h2 : Ev C.n ρ y (.int k b)) :
    Rd P C hs ρ ⟨d, .binOp .gtr t x y t', ty, pos, af, g⟩ (.bool (decide (b < a))) := Rd.bin h1 h2 fun w => by simp [binOp, Op.intCmp]
theorem Rd.geq {k : IntKind} {a b : Int} {t' : TypeId} (h1 : Ev C.n ρ x (.int k a)) (h2 : Ev C.n ρ y (.int k b)) :
    Rd P C hs ρ ⟨d, .binOp .geq t x y t', ty, pos, af, g⟩ (.bool (decide (b ≤ a))) := Rd.bin h1 h2 fun w => by simp [binOp, Op.intCmp]
theorem Rd.eql {k : IntKind} {a b : Int} {t' : TypeId} (h1 : Ev C.n ρ x (.int k a)) (h2 : Ev C.n ρ y (.int k b)) :
    Rd P C hs ρ ⟨d, .binOp .eql t x y t', ty, pos, af, g⟩ (.bool (decide (a = b))) := Rd.bin h1 h2 fun w => by
  simp only [binOp, Op.intCmp, ne_eq, not_true_eq_false, if_false]; rfl
theorem Rd.neq {k : IntKind} {a b : Int} {t' : TypeId} (h1 : Ev C.n ρ x (.int k a)) (h2 : Ev C.n ρ y (.int k b)) :
    Rd P C hs ρ ⟨d, .binOp .neq t x y t', ty, pos, af, g⟩ (.bool (decide (a ≠ b))) := Rd.bin h1 h2 fun w => by
  have : (a != b) = decide (a ≠ b) := by
    rw [bne, decide_not]; rfl
  simp [binOp, Op.intCmp, this]
theorem Rd.conv {k k' : IntKind} {a : Int} {t' : TypeId} (h : Ev C.n ρ x (.int k a)) (hs' : ∀ w, ∃ dsc, (underlying t).run P w = .ok dsc w) (hu : ∀ w, (underlying t').run P w = .ok (.int k') w) (hw : k'.wrap a = a) :
    Rd P C hs ρ ⟨d, .convert t t' x, ty, pos, af, g⟩ (.int k' a) :=
  Rd.ex (fun c h => by cases h) (convert t t' (.int k a)) (fun ds => by simp only [execOp, h ds]) fun w _ => by
    obtain ⟨dsc, hd⟩ := hs' w
    simp only [convert, Sem.run_bind, hd, hu w, Result.andThen]
    simp only [Conv.intToInt, hw]; rfl
theorem Rd.convW {k k' : IntKind} {a : Int} {t' : TypeId} (h : Ev C.n ρ x (.int k a)) (hs' : ∀ w, ∃ dsc, (underlying t).run P w = .ok dsc w) (hu : ∀ w, (underlying t').run P w = .ok (.int k') w) :
    Rd P C hs ρ ⟨d, .convert t t' x, ty, pos, af, g⟩ (.int k' (k'.wrap a)) :=
  Rd.ex (fun c h => by cases h) (convert t t' (.int k a)) (fun ds => by simp only [execOp, h ds]) fun w _ => by
    obtain ⟨dsc, hd⟩ := hs' w
    simp only [convert, Sem.run_bind, hd, hu w, Result.andThen]
    simp only [Conv.intToInt]; rfl

/-! ### '==' in general: what eqGuard lets by -/
theorem Rd.cmp {op : BinOp} {t' : TypeId} (h1 : Ev C.n ρ x v) (h2 : Ev C.n ρ y u) (hg : ∀ w, (eqGuard op t x y v u).run P w = .ok () w) {r : Value} (hr : ∀ w, C.inv hs w → (binOp op t v u).run P w = .ok r w) :
    Rd P C hs ρ ⟨d, .binOp op t x y t', ty, pos, af, g⟩ r :=
  Rd.ex (fun c h => by cases h) (do eqGuard op t x y v u; binOp op t v u) (fun ds => by simp only [execOp, h1 ds, h2 ds]) (fun w hi => by rw [Sem.run_bind, hg w]; exact hr w hi)

theorem Rd.bool2 {op : BinOp} {t' : TypeId} {a b : Bool} (h1 : Ev C.n ρ x (.bool a)) (h2 : Ev C.n ρ y (.bool b)) (hu : ∀ w, (underlying t).run P w = .ok .bool w) (hop : op = .eql ∨ op = .neq) :
    Rd P C hs ρ ⟨d, .binOp op t x y t', ty, pos, af, g⟩ (.bool (if op = .eql then a == b else !(a == b))) := by
  refine Rd.cmp h1 h2 (fun w => by unfold eqGuard; rcases hop with rfl | rfl <;> rfl) fun w _ => ?_
  have e : (Op.equal t (.bool a) (.bool b)).run P w = .ok (a == b) w := by
    show (Op.equalIn (9999 + 1) t (.bool a) (.bool b)).run P w = _
    unfold Op.equalIn
    rw [Sem.run_bind, hu w]; rfl
  rcases hop with rfl | rfl
  · show (do pure (Value.bool (← Op.equal t (.bool a) (.bool b))) : Sem Value).run P w = _
    rw [Sem.run_bind, e]; rfl
  · show (do pure (Value.bool (!(← Op.equal t (.bool a) (.bool b)))) : Sem Value).run P w = _
    rw [Sem.run_bind, e]; rfl

theorem run_equal_nil {e : TypeId} {p : Option Addr} (hu : ∀ w, (underlying t).run P w = .ok (.pointer e) w) {w : World} : (Op.equal t (.pointer p) (.pointer none)).run P w = .ok p.isNone w := by
  show (Op.equalIn (9999 + 1) t (.pointer p) (.pointer none)).run P w = _
  unfold Op.equalIn
  rw [Sem.run_bind, hu w]
  cases p <;> rfl

/-- A pointer against nil. -/
theorem Rd.eqlNil {t' e : TypeId} {p : Option Addr} (h1 : Ev C.n ρ x (.pointer p)) (hu : ∀ w, (underlying t).run P w = .ok (.pointer e) w) :
    Rd P C hs ρ ⟨d, .binOp .eql t x (.const (.pointer none)) t', ty, pos, af, g⟩ (.bool p.isNone) := by
  refine Rd.cmp h1 Ev.c (fun w => by unfold eqGuard; rfl) fun w _ => ?_
  show (do pure (Value.bool (← Op.equal t (.pointer p) (.pointer none))) : Sem Value).run P w = _
  rw [Sem.run_bind, run_equal_nil hu]; rfl
theorem Rd.neqNil {t' e : TypeId} {p : Option Addr} (h1 : Ev C.n ρ x (.pointer p)) (hu : ∀ w, (underlying t).run P w = .ok (.pointer e) w) :
    Rd P C hs ρ ⟨d, .binOp .neq t x (.const (.pointer none)) t', ty, pos, af, g⟩ (.bool !p.isNone) := by
  refine Rd.cmp h1 Ev.c (fun w => by unfold eqGuard; rfl) fun w _ => ?_
  show (do pure (Value.bool (!(← Op.equal t (.pointer p) (.pointer none)))) : Sem Value).run P w = _
  rw [Sem.run_bind, run_equal_nil hu]; rfl

/-! ### strings -/
theorem Rd.str2 {op : BinOp} {t' : TypeId} {a b : ByteArray} (h1 : Ev C.n ρ x (.string a)) (h2 : Ev C.n ρ y (.string b)) (hr : ∀ w, (Op.stringOp op a b).run P w = .ok v w) :
    Rd P C hs ρ ⟨d, .binOp op t x y t', ty, pos, af, g⟩ v := by
  refine Rd.cmp h1 h2 (fun w => by unfold eqGuard; cases op <;> rfl) fun w _ => ?_
  have : binOp op t (.string a) (.string b) = Op.stringOp op a b := by cases op <;> rfl
  rw [this]; exact hr w

/-! ### addresses -/
def Fld (P : Program) (s : TypeId) (i o : Nat) : Prop := ∀ a w, (Instr.fieldAt s (.pointer (some a)) i).run P w = .ok (.pointer (some (a.add o))) w
theorem add_zero_off (b o : Nat) : (⟨b, 0, none⟩ : Addr).add o = ⟨b, o, none⟩ := by
  unfold Addr.add; split
  · rename_i h; rw [h]
  · simp
theorem add_off (b k o : Nat) : (⟨b, k, none⟩ : Addr).add o = ⟨b, k + o, none⟩ := by
  unfold Addr.add; split
  · rename_i h; rw [h]; rfl
  · rfl
theorem Rd.fld0 {i b o : Nat} (hf : Fld P t i o) (h : Ev C.n ρ x (.pointer (some ⟨b, 0, none⟩))) : Rd P C hs ρ ⟨d, .fieldAddr t x i, ty, pos, af, g⟩ (.pointer (some ⟨b, o, none⟩)) :=
  Rd.ex (fun c h => by cases h) (Instr.fieldAt t (.pointer (some ⟨b, 0, none⟩)) i) (fun ds => by simp only [execOp, h ds]) fun w _ => by rw [hf, add_zero_off]
theorem Rd.fldz {i b k : Nat} (hf : Fld P t i 0) (h : Ev C.n ρ x (.pointer (some ⟨b, k, none⟩))) : Rd P C hs ρ ⟨d, .fieldAddr t x i, ty, pos, af, g⟩ (.pointer (some ⟨b, k, none⟩)) :=
  Rd.ex (fun c h => by cases h) (Instr.fieldAt t (.pointer (some ⟨b, k, none⟩)) i) (fun ds => by simp only [execOp, h ds]) fun w _ => by rw [hf]; rfl
theorem Rd.fld {i b k o : Nat} (hf : Fld P t i o) (h : Ev C.n ρ x (.pointer (some ⟨b, k, none⟩))) : Rd P C hs ρ ⟨d, .fieldAddr t x i, ty, pos, af, g⟩ (.pointer (some ⟨b, k + o, none⟩)) :=
  Rd.ex (fun c h => by cases h) (Instr.fieldAt t (.pointer (some ⟨b, k, none⟩)) i) (fun ds => by simp only [execOp, h ds]) fun w _ => by rw [hf, add_off]

/-- '&s[i]', i in range. -/
theorem Rd.idx {e : TypeId} {size b off len cap : Nat} {k : IntKind} {i : Int} (hu : ∀ w, (underlying t).run P w = .ok (.slice e) w) (hz : ∀ w, (sizeOf e).run P w = .ok size w)
    (h : Ev C.n ρ x (.slice (some ⟨b, off, none⟩) len cap)) (hi : Ev C.n ρ y (.int k i)) (h0 : 0 ≤ i) (h1 : i < len) :
    Rd P C hs ρ ⟨d, .indexAddr t x y, ty, pos, af, g⟩ (.pointer (some ⟨b, off + i.toNat * size, none⟩)) :=
  Rd.ex (fun c h => by cases h) (Instr.indexAt t (.slice (some ⟨b, off, none⟩) len cap) (.int k i)) (fun ds => by simp only [execOp, h ds, hi ds]) fun w _ => by
    simp [Instr.indexAt, asIntOf, Sem.run_bind, hu w, hz w, Result.andThen, h0, h1, add_off]
theorem Rd.idx0 {e : TypeId} {b len cap : Nat} {k : IntKind} {i : Int} (hu : ∀ w, (underlying t).run P w = .ok (.slice e) w) (hz : ∀ w, (sizeOf e).run P w = .ok 1 w)
    (h : Ev C.n ρ x (.slice (some ⟨b, 0, none⟩) len cap)) (hi : Ev C.n ρ y (.int k i)) (h0 : 0 ≤ i) (h1 : i < len) :
    Rd P C hs ρ ⟨d, .indexAddr t x y, ty, pos, af, g⟩ (.pointer (some ⟨b, i.toNat, none⟩)) := by
  have := Rd.idx (P := P) (C := C) (hs := hs) (d := d) (ty := ty) (pos := pos) (af := af) (g := g) hu hz h hi h0 h1
  rwa [Nat.mul_one, Nat.zero_add] at this
/-- The same of an array behind a pointer. -/
theorem Rd.idxA {e : TypeId} {size b off n : Nat} {k : IntKind} {i : Int} (hu : ∀ w, (underlying t).run P w = .ok (.array n e) w) (hz : ∀ w, (sizeOf e).run P w = .ok size w)
    (h : Ev C.n ρ x (.pointer (some ⟨b, off, none⟩))) (hi : Ev C.n ρ y (.int k i)) (h0 : 0 ≤ i) (h1 : i < n) :
    Rd P C hs ρ ⟨d, .indexAddr t x y, ty, pos, af, g⟩ (.pointer (some ⟨b, off + i.toNat * size, none⟩)) :=
  Rd.ex (fun c h => by cases h) (Instr.indexAt t (.pointer (some ⟨b, off, none⟩)) (.int k i)) (fun ds => by simp only [execOp, h ds, hi ds]) fun w _ => by
    simp [Instr.indexAt, Instr.sureAddr, asIntOf, Sem.run_bind, hu w, hz w, Result.andThen, h0, h1, add_off]

/-! ### memory -/
theorem cell_of {w : World} {b off : Nat} {cs : List Value} {e : TypeId} {fr : Nat × Nat} (h : w.heap[b]? = some (.cells cs.toArray e fr)) : w.cell? ⟨b, off, none⟩ = cs[off]? := by
  simp [World.cell?, h]

theorem Rd.ld {b off : Nat} {cs : List Value} {e : TypeId} {fr : Nat × Nat} (ht : ∀ w, (isAgg t).run P w = .ok false w) (h : Ev C.n ρ x (.pointer (some ⟨b, off, none⟩)))
    (hb : Blk b (.cells cs.toArray e fr) hs) (hv : cs[off]? = some v) : Rd P C hs ρ ⟨d, .load t x, ty, pos, af, g⟩ v :=
  Rd.ex (fun c h => by cases h) (Instr.loadAt t (.pointer (some ⟨b, off, none⟩))) (fun ds => by simp only [execOp, h ds]) fun w hi => by
    have hc : w.cell? ⟨b, off, none⟩ = some v := (cell_of (hb.inv hi)).trans hv
    simp only [Instr.loadAt, Instr.sureAddr, loadVar, Sem.run_bind, Sem.run_pure, ht w, Result.andThen]
    simp [load, Sem.run, hc]

theorem Rd.ldN {b off : Nat} {cs : List Value} {e : TypeId} {fr : Nat × Nat} (ht : ∀ w, (isAgg t).run P w = .ok false w) (h : Ev C.n ρ x (.pointer (some ⟨b, off, none⟩)))
    (hb : Blk b (.cells cs.toArray e fr) hs) (hv : Nth off cs v) : Rd P C hs ρ ⟨d, .load t x, ty, pos, af, g⟩ v := Rd.ld ht h hb hv.get

theorem run_loadRow {w : World} {b off s : Nat} {cs vs : List Value} {e : TypeId} {fr : Nat × Nat} (hb : w.heap[b]? = some (.cells cs.toArray e fr)) (hv : (cs.drop off).take s = vs) (hl : vs.length = s) :
    (loadCells ⟨b, off, none⟩ s).run P w = .ok vs.toArray w := by
  have := run_loadCells_list (P := P) w ⟨b, off, none⟩ vs (fun j v hj => by
    rw [add_off, cell_of hb]
    have hj' : j < s := by rw [← hl]; exact (List.getElem?_eq_some_iff.1 hj).1
    rw [← hv, List.getElem?_take_of_lt hj', List.getElem?_drop] at hj
    exact hj)
  rw [hl] at this
  exact this

theorem Rd.ldA {b off s : Nat} {cs vs : List Value} {e : TypeId} {fr : Nat × Nat} (ht : ∀ w, (isAgg t).run P w = .ok true w) (hz : ∀ w, (sizeOf t).run P w = .ok s w) (h : Ev C.n ρ x (.pointer (some ⟨b, off, none⟩)))
    (hb : Blk b (.cells cs.toArray e fr) hs) (hv : (cs.drop off).take s = vs) (hl : vs.length = s) : Rd P C hs ρ ⟨d, .load t x, ty, pos, af, g⟩ (.agg vs.toArray) :=
  Rd.ex (fun c h => by cases h) (Instr.loadAt t (.pointer (some ⟨b, off, none⟩))) (fun ds => by simp only [execOp, h ds]) fun w hi => by
    simp only [Instr.loadAt, Instr.sureAddr, loadVar, Sem.run_bind, Sem.run_pure, ht w, hz w, Result.andThen, if_true, run_loadRow (hb.inv hi) hv hl]

/-- A whole block. -/
theorem Rd.ldB {b s : Nat} {cs : List Value} {e : TypeId} {fr : Nat × Nat} (ht : ∀ w, (isAgg t).run P w = .ok true w) (hz : ∀ w, (sizeOf t).run P w = .ok s w) (h : Ev C.n ρ x (.pointer (some ⟨b, 0, none⟩)))
    (hb : Blk b (.cells cs.toArray e fr) hs) (hl : cs.length = s) : Rd P C hs ρ ⟨d, .load t x, ty, pos, af, g⟩ (.agg cs.toArray) :=
  Rd.ldA ht hz h hb (by rw [List.drop_zero, ← hl, List.take_length]) hl

theorem frozen_of {w : World} {b off : Nat} {cs : Array Value} {e : TypeId} {lo hi : Nat} (h : w.heap[b]? = some (.cells cs e (lo, hi))) (hf : (decide (lo ≤ off) && decide (off < hi)) = false) : w.frozen? ⟨b, off, none⟩ = false := by
  simp only [World.frozen?, h]
  exact hf

theorem setCell_setBlk {w : World} {b off : Nat} {cs : Array Value} {e : TypeId} {fr : Nat × Nat} (v : Value) (h : w.heap[b]? = some (.cells cs e fr)) :
    w.setCell ⟨b, off, none⟩ v = setBlk w b (.cells (cs.setIfInBounds off v) e fr) := by
  have hlt : b < w.heap.size := (Array.getElem?_eq_some_iff.1 h).1
  have hget : w.heap[b] = .cells cs e fr := (Array.getElem?_eq_some_iff.1 h).2
  unfold World.setCell setBlk
  congr 1
  apply Array.ext
  · simp
  · intro i h1 h2
    rw [Array.getElem_modify, Array.getElem_setIfInBounds]
    · by_cases hb : b = i
      · subst hb; simp [hget]
      · simp [hb]
    · simpa using h1

theorem run_store1 {w : World} {b off : Nat} {cs : List Value} {e : TypeId} {lo hi : Nat} (h : w.heap[b]? = some (.cells cs.toArray e (lo, hi))) (hf : (decide (lo ≤ off) && decide (off < hi)) = false) (ho : off < cs.length)
    (hv : v.oneCell' = true) : (store ⟨b, off, none⟩ v).run P w = .ok () (setBlk w b (.cells (cs.set off v).toArray e (lo, hi))) := by
  have hc : w.cell? ⟨b, off, none⟩ = some cs[off] := by rw [cell_of h]; simp [ho]
  have := setCell_setBlk (off := off) v h
  simp only [List.setIfInBounds_toArray] at this
  cases v <;> first | (simp only [store, Sem.run, hc, frozen_of h hf, this]; rfl) | (exact absurd hv (by simp [Value.oneCell']))

theorem heap_setBlk {w : World} {b : Nat} {o : Obj} (h : b < w.heap.size) : (setBlk w b o).heap[b]? = some o := by simp [setBlk, h]
theorem setBlk_setBlk (w : World) (b : Nat) (o o' : Obj) : setBlk (setBlk w b o) b o' = setBlk w b o' := by simp [setBlk]
theorem setBlk_same {w : World} {b : Nat} {o : Obj} (h : w.heap[b]? = some o) : setBlk w b o = w := by
  obtain ⟨hlt, he⟩ := Array.getElem?_eq_some_iff.1 h
  unfold setBlk
  have : w.heap.setIfInBounds b o = w.heap := by
    apply Array.ext
    · simp
    · intro i h1 h2
      rw [Array.getElem_setIfInBounds]
      · split
        · rename_i hb; subst hb; exact he.symm
        · rfl
  rw [this]

/-- Cells vs in place of those from off on. -/
def splice (cs : List Value) (off : Nat) (vs : List Value) : List Value := cs.take off ++ vs ++ cs.drop (off + vs.length)

theorem run_storeRow : ∀ (vs : List Value) {w : World} {b off i : Nat} {cs : List Value} {e : TypeId} {lo hi : Nat}, w.heap[b]? = some (.cells cs.toArray e (lo, hi)) → (hi ≤ off + i ∨ hi ≤ lo ∨ off + i + vs.length ≤ lo) →
    off + i + vs.length ≤ cs.length → (∀ v ∈ vs, v.oneCell' = true) →
    (storeCells ⟨b, off, none⟩ vs i).run P w = .ok () (setBlk w b (.cells (splice cs (off + i) vs).toArray e (lo, hi))) := by
  intro vs
  induction vs with
  | nil =>
    intro w b off i cs e lo hi h _ _ _
    have : splice cs (off + i) [] = cs := by simp [splice]
    rw [this, setBlk_same h]; rfl
  | cons v vs ih =>
    intro w b off i cs e lo hi h hf hl hv
    simp only [List.length_cons] at hf hl
    have hlt : b < w.heap.size := (Array.getElem?_eq_some_iff.1 h).1
    have hf' : (decide (lo ≤ off + i) && decide (off + i < hi)) = false := by
      simp only [Bool.and_eq_false_iff, decide_eq_false_iff_not]; omega
    have h1 := run_store1 (P := P) (off := off + i) (v := v) h hf' (by omega) (hv v (List.mem_cons_self ..))
    simp only [storeCells, add_off, Sem.run_bind, h1, Result.andThen]
    have h2 := ih (w := setBlk w b (.cells (cs.set (off + i) v).toArray e (lo, hi))) (b := b) (off := off) (i := i + 1) (cs := cs.set (off + i) v) (e := e) (lo := lo) (hi := hi) (heap_setBlk hlt) (by omega) (by simp; omega) (fun u hu => hv u (List.mem_cons_of_mem _ hu))
    rw [h2, setBlk_setBlk]
    congr 3
    simp only [splice, List.length_cons]
    have e1 : List.take (off + (i + 1)) (cs.set (off + i) v) = List.take (off + i) cs ++ [v] := by
      rw [show off + (i + 1) = off + i + 1 by omega, List.take_succ_eq_append_getElem (by simp; omega)]
      simp [List.take_set_of_le]
    rw [e1, show off + (i + 1) + vs.length = off + i + (vs.length + 1) by omega, List.drop_set_of_lt (by omega)]
    simp

theorem Ef.st {b off : Nat} {cs cs' : List Value} {e : TypeId} {lo hi : Nat} {hs' : List Assn} (hz : ∀ w, (sizeOf t).run P w = .ok 1 w) (h : Ev C.n ρ x (.pointer (some ⟨b, off, none⟩))) (hy : Ev C.n ρ y v) (hv : v.oneCell' = true)
    (hr : Rep (pts b (.cells cs.toArray e (lo, hi))) (pts b (.cells cs'.toArray e (lo, hi))) hs hs') (hb : Blk b (.cells cs.toArray e (lo, hi)) hs) (hset : SetN off v cs cs') (hf : (decide (lo ≤ off) && decide (off < hi)) = false) (k : K undef hs') :
    Ef P C hs ρ ⟨d, .store t x y, ty, pos, af, g⟩ K :=
  Ef.ex0 (fun c h => by cases h) (Instr.storeAt t (.pointer (some ⟨b, off, none⟩)) v) (fun ds => by simp only [execOp, h ds, hy ds]) fun w hi' => by
    obtain ⟨rfl, hlt⟩ := hset.eq
    refine ⟨_, hs', ?_, hi'.upd hr, k⟩
    have hcells : v.cells = #[v] := by cases v <;> first | rfl | exact absurd hv (by simp [Value.oneCell'])
    have h1 := run_store1 (P := P) (off := off) (v := v) (hb.inv hi') hf hlt hv
    simp only [Instr.storeAt, Instr.sureAddr, storeVar, Sem.run_bind, Sem.run_pure, hz w, Result.andThen, hcells]
    simp [storeCells, Addr.add, h1]

theorem Ef.stA {b off s : Nat} {cs vs : List Value} {e : TypeId} {lo hi : Nat} {hs' : List Assn} (hz : ∀ w, (sizeOf t).run P w = .ok s w) (h : Ev C.n ρ x (.pointer (some ⟨b, off, none⟩))) (hy : Ev C.n ρ y (.agg vs.toArray)) (hs1 : vs.length = s)
    (hv : ∀ v ∈ vs, v.oneCell' = true)
    (hr : Rep (pts b (.cells cs.toArray e (lo, hi))) (pts b (.cells (splice cs off vs).toArray e (lo, hi))) hs hs') (hb : Blk b (.cells cs.toArray e (lo, hi)) hs) (hl : off + vs.length ≤ cs.length) (hf : hi ≤ off ∨ hi ≤ lo ∨ off + vs.length ≤ lo) (k : K undef hs') :
    Ef P C hs ρ ⟨d, .store t x y, ty, pos, af, g⟩ K :=
  Ef.ex0 (fun c h => by cases h) (Instr.storeAt t (.pointer (some ⟨b, off, none⟩)) (.agg vs.toArray)) (fun ds => by simp only [execOp, h ds, hy ds]) fun w hi' => by
    refine ⟨_, hs', ?_, hi'.upd hr, k⟩
    have h1 := run_storeRow (P := P) vs (i := 0) (hb.inv hi') (by simpa using hf) (by simpa using hl) hv
    simp only [Instr.storeAt, Instr.sureAddr, storeVar, Sem.run_bind, Sem.run_pure, hz w, Result.andThen, Value.cells]
    simp [hs1, h1]

theorem splice_all {cs vs : List Value} (h : cs.length = vs.length) : splice cs 0 vs = vs := by simp [splice, ← h]

/-- A whole block is overwritten. -/
theorem Ef.stB {b s : Nat} {cs vs : List Value} {e : TypeId} {lo hi : Nat} {hs' : List Assn} (hz : ∀ w, (sizeOf t).run P w = .ok s w) (h : Ev C.n ρ x (.pointer (some ⟨b, 0, none⟩))) (hy : Ev C.n ρ y (.agg vs.toArray))
    (hr : Rep (pts b (.cells cs.toArray e (lo, hi))) (pts b (.cells vs.toArray e (lo, hi))) hs hs') (hb : Blk b (.cells cs.toArray e (lo, hi)) hs) (hs1 : vs.length = s) (hs2 : cs.length = s)
    (hv : ∀ v ∈ vs, v.oneCell' = true) (hf : hi ≤ lo) (k : K undef hs') :
    Ef P C hs ρ ⟨d, .store t x y, ty, pos, af, g⟩ K :=
  Ef.stA (off := 0) hz h hy hs1 hv (by rw [splice_all (by omega)]; exact hr) hb (by omega) (.inr (.inl hf)) k

/-! ### new blocks -/
theorem Ef.alloc {cs : List Value} {z : Value} (hz : ∀ w, (zeroValue t).run P w = .ok z w) (hc : z.cells = cs.toArray) (k : ∀ b, K (.pointer (some ⟨b, 0, none⟩)) (pts b (.cells cs.toArray t) :: hs)) :
    Ef P C hs ρ ⟨d, .alloc t, ty, pos, af, g⟩ K :=
  Ef.ex (fun c h => by cases h) (Instr.alloc t true (.tuple #[])) (fun ds => by simp only [execOp]) fun w hi =>
    ⟨_, w.alloc (.cells cs.toArray t), _, by
      simp only [Instr.alloc, Sem.run_bind, hz w, Result.andThen, newVar, newRow, hc]
      rfl, hi.alloc _, k _⟩

theorem Ef.box {cs : List Value} (h : Ev C.n ρ x v) (hc : v.cells = cs.toArray) (k : ∀ b, K (.pointer (some ⟨b, 0, none⟩)) (pts b (.cells cs.toArray t) :: hs)) :
    Ef P C hs ρ ⟨d, .box t x, ty, pos, af, g⟩ K :=
  Ef.ex (fun c h => by cases h) (Instr.box t v) (fun ds => by simp only [execOp, h ds]) fun w hi =>
    ⟨_, w.alloc (.cells cs.toArray t), _, by
      simp only [Instr.box, newVar, newRow, hc]
      rfl, hi.alloc _, k _⟩

theorem Ef.mkmap (k : ∀ b, K (.map (some b)) (pts b (.map #[] 0) :: hs)) : Ef P C hs ρ ⟨d, .makeMap t none, ty, pos, af, g⟩ K :=
  Ef.ex (fun c h => by cases h) (Instr.makeMap t none) (fun ds => by simp only [execOp, Option.map_none]) fun w hi =>
    ⟨_, w.alloc (.map #[] 0), _, by rfl, hi.alloc _, k _⟩

theorem Rd.build {parts : List (Nat × Operand)} {vs : List (Nat × Value)} {r : Value} (h : ∀ ds, parts.toArray.map (fun p => (p.1, (act C.n ds ρ).eval p.2)) = vs.toArray) (hr : ∀ w, (Instr.build t vs.toArray).run P w = .ok r w) :
    Rd P C hs ρ ⟨d, .build t parts.toArray, ty, pos, af, g⟩ r :=
  Rd.ex (fun c h => by cases h) (Instr.build t vs.toArray) (fun ds => by
    have := h ds
    simp only [execOp]
    rw [this]) fun w _ => hr w

theorem Rd.mkfunc {f : Go.Fn} {xs ys : List Operand} {vs us : List Value} (h1 : EvL C.n ρ xs vs) (h2 : EvL C.n ρ ys us) : Rd P C hs ρ ⟨d, .makeFunc f xs.toArray ys.toArray, ty, pos, af, g⟩ (.func f vs.toArray us.toArray) :=
  Rd.ex (fun c h => by cases h) (Instr.makeFunc f vs.toArray us.toArray) (fun ds => by simp only [execOp, h1.map ds, h2.map ds]) fun w _ => rfl

theorem Rd.len {xs : TypeId} {e : TypeId} {a : Option Addr} {n c : Nat} (hu : ∀ w, (underlying xs).run P w = .ok (.slice e) w) (h : Ev C.n ρ x (.slice a n c)) :
    Rd P C hs ρ ⟨d, .call { callee := .builtin .len, args := #[x], argTypes := #[xs] }, ty, pos, af, g⟩ (.int .i64 n) :=
  Rd.of (fun c h => by cases h) fun w _ => by
    show (execOp (act C.n C.ds ρ).eval _).run P w = _
    simp [execOp, resolve, invoke, builtin, Builtin.len_, Sem.run_bind, Result.andThen, hu w, h C.ds, goInt]
theorem Rd.lenS {xs : TypeId} {s : ByteArray} (hu : ∀ w, (underlying xs).run P w = .ok .string w) (h : Ev C.n ρ x (.string s)) :
    Rd P C hs ρ ⟨d, .call { callee := .builtin .len, args := #[x], argTypes := #[xs] }, ty, pos, af, g⟩ (.int .i64 s.size) :=
  Rd.of (fun c h => by cases h) fun w _ => by
    show (execOp (act C.n C.ds ρ).eval _).run P w = _
    simp [execOp, resolve, invoke, builtin, Builtin.len_, Sem.run_bind, Result.andThen, hu w, h C.ds, goInt]
end

end Go.Proofs.Ytfnoaohbjlnkgaa
