/-
  More rules of operations: tests that are not decided, tuples, arrays' comparison, strings of bytes. No program in it.
-/
import Derived.Test.YtfnoaohbjlnkgaaA5
namespace Go.Proofs.Ytfnoaohbjlnkgaa

theorem EvB {n : Nat} {ρ : Env} {x : Operand} {b c : Bool} (h : Ev n ρ x (.bool b)) (e : b = c) : Ev n ρ x (.bool c) := e ▸ h

section
variable {P : Program} {C : Cx} {ops : Array Oper} {Q : Exit → Act → World → Prop} {rest : List Oper} {ρ : Env} {hs : List Assn} {l : List Oper} {x : Operand}

theorem JL.caseB {b : Bool} (_hv : Ev C.n ρ x (.bool b)) (ht : b = true → JL P C ops Q rest ρ hs) (hf : b = false → JL P C ops Q rest ρ hs) : JL P C ops Q rest ρ hs := by
  cases b
  · exact hf rfl
  · exact ht rfl
theorem JL.caseD {p : Prop} [Decidable p] (_hv : Ev C.n ρ x (.bool (decide p))) (ht : p → decide p = true → JL P C ops Q rest ρ hs) (hf : ¬ p → decide p = false → JL P C ops Q rest ρ hs) : JL P C ops Q rest ρ hs := by
  by_cases h : p
  · exact ht h (decide_eq_true h)
  · exact hf h (decide_eq_false h)
theorem DNew.caseB {is : List Nat} {K : Env → Prop} {b : Bool} (_hv : Ev C.n ρ x (.bool b)) (ht : b = true → DNew P C l hs is ρ K) (hf : b = false → DNew P C l hs is ρ K) : DNew P C l hs is ρ K := by
  cases b
  · exact hf rfl
  · exact ht rfl
theorem DNew.caseD {is : List Nat} {K : Env → Prop} {p : Prop} [Decidable p] (_hv : Ev C.n ρ x (.bool (decide p))) (ht : p → decide p = true → DNew P C l hs is ρ K) (hf : ¬ p → decide p = false → DNew P C l hs is ρ K) : DNew P C l hs is ρ K := by
  by_cases h : p
  · exact ht h (decide_eq_true h)
  · exact hf h (decide_eq_false h)
end

section
variable {P : Program} {C : Cx} {hs : List Assn} {ρ : Env} {d : Option Tmp} {ty : TypeId} {pos : String} {af : Array Edge} {g : Option (Nat × Bool)} {K : Value → List Assn → Prop}
  {x y z : Operand} {v u : Value} {t : TypeId}

theorem Rd.extract {i : Nat} {vs : List Value} (h : Ev C.n ρ x (.tuple vs.toArray)) (hv : Nth i vs v) : Rd P C hs ρ ⟨d, .extract x i, ty, pos, af, g⟩ v :=
  Rd.ex (fun c h => by cases h) (Instr.extract (.tuple vs.toArray) i) (fun ds => by simp only [execOp, h ds]) fun w _ => by
    have := hv.get
    simp [Instr.extract, this]

theorem run_max2 {k k' : IntKind} {a b : Int} {w : World} : (Builtin.max2 (.int k a) (.int k' b)).run P w = .ok (.int k (max a b)) w := by
  show Result.ok (Value.int k (if b > a then b else a)) w = _
  have : (if b > a then b else a) = max a b := by split <;> omega
  rw [this]
theorem run_min2 {k k' : IntKind} {a b : Int} {w : World} : (Builtin.min2 (.int k a) (.int k' b)).run P w = .ok (.int k (min a b)) w := by
  show Result.ok (Value.int k (if b < a then b else a)) w = _
  have : (if b < a then b else a) = min a b := by split <;> omega
  rw [this]

theorem Rd.max2 {k : IntKind} {a b : Int} (h1 : Ev C.n ρ x (.int k a)) (h2 : Ev C.n ρ y (.int k b)) {ats : Array TypeId} :
    Rd P C hs ρ ⟨d, .call { callee := .builtin .max, args := #[x, y], argTypes := ats }, ty, pos, af, g⟩ (.int k (max a b)) :=
  Rd.of (fun c h => by cases h) fun w _ => by
    show (execOp (act C.n C.ds ρ).eval _).run P w = _
    simp [execOp, resolve, invoke, builtin, Builtin.max_, Result.andThen, h1 C.ds, h2 C.ds, run_max2]
theorem Rd.min2 {k : IntKind} {a b : Int} (h1 : Ev C.n ρ x (.int k a)) (h2 : Ev C.n ρ y (.int k b)) {ats : Array TypeId} :
    Rd P C hs ρ ⟨d, .call { callee := .builtin .min, args := #[x, y], argTypes := ats }, ty, pos, af, g⟩ (.int k (min a b)) :=
  Rd.of (fun c h => by cases h) fun w _ => by
    show (execOp (act C.n C.ds ρ).eval _).run P w = _
    simp [execOp, resolve, invoke, builtin, Builtin.min_, Result.andThen, h1 C.ds, h2 C.ds, run_min2]

/-- A result that lies in a variable: an array or a struct. -/
theorem ResV.cell {fn : Func} {b s : Nat} {cs : List Value} {e : TypeId} {fr : Nat × Nat} {p : Nat} (h : fn.results = #[.cell p t]) (ht : ∀ w, (isAgg t).run P w = .ok true w) (hz : ∀ w, (sizeOf t).run P w = .ok s w)
    (hp : Ev C.n ρ (.tmp p) (.pointer (some ⟨b, 0, none⟩))) (hb : Blk b (.cells cs.toArray e fr) hs) (hl : cs.length = s) : ResV P C fn ρ hs (.agg cs.toArray) := fun w hi => by
  have h1 := getD_act (ds := C.ds) hp
  simp only [Array.getD_eq_getD_getElem?] at h1
  have h2 : (loadVar t ⟨b, 0, none⟩).run P w = .ok (.agg cs.toArray) w := by
    simp only [loadVar, Sem.run_bind, Sem.run_pure, ht w, hz w, Result.andThen, if_true, run_loadRow (off := 0) (vs := cs) (hb.inv hi) (by rw [List.drop_zero, ← hl, List.take_length]) hl]
  simp [results, h, h1, asAddr, h2]
end

/-! ### composite values -/
inductive EvP (n : Nat) (ρ : Env) : List (Nat × Operand) → List (Nat × Value) → Prop
  | nil : EvP n ρ [] []
  | cons {i x v xs vs} : Ev n ρ x v → EvP n ρ xs vs → EvP n ρ ((i, x) :: xs) ((i, v) :: vs)

theorem EvP.map {n ρ} {xs : List (Nat × Operand)} {vs : List (Nat × Value)} (h : EvP n ρ xs vs) (ds) : xs.toArray.map (fun p => (p.1, (act n ds ρ).eval p.2)) = vs.toArray := by
  induction h with
  | nil => simp
  | cons h1 _ ih =>
    simp only [List.map_toArray] at ih ⊢
    have := h1 ds
    simp only [List.map_cons, this]
    simpa using ih

/-- How a struct of this type is built: its zero cells, its fields' places and sizes. -/
def Bld (P : Program) (t : TypeId) (zs : List Value) (pl : List (Nat × Nat)) : Prop := ∀ (parts : Array (Nat × Value)) (c : Array Value) w,
  Instr.fill (pl.toArray[·]?) zs.toArray parts.toList = some c → (Instr.build t parts).run P w = .ok (.agg c) w

theorem Bld.mk {P : Program} {t : TypeId} {zs : List Value} {pl : List (Nat × Nat)} {z : Value} {fs : Array Field} (hz : ∀ w, (zeroValue t).run P w = .ok z w) (hc : z.cells = zs.toArray)
    (hu : ∀ w, (underlying t).run P w = .ok (.struct fs) w) (hp : ∀ w, (fs.mapM fun f => do pure (f.offset, ← sizeOf f.type) : Sem (Array (Nat × Nat))).run P w = .ok pl.toArray w) : Bld P t zs pl := by
  intro parts c w h
  simp only [Instr.build, Sem.run_bind, hz w, hu w, hp w, Result.andThen, hc]
  rw [h]
  rfl

inductive FillN (pl : List (Nat × Nat)) : List Value → List (Nat × Value) → List Value → Prop
  | nil {z} : FillN pl z [] z
  | one {i off v z z' rest r} (hi : pl[i]? = some (off, 1)) (hv : v.oneCell' = true) (hs : SetN off v z z') (hr : FillN pl z' rest r) : FillN pl z ((i, v) :: rest) r
  | agg {i off s vs z rest r} (hi : pl[i]? = some (off, s)) (hl : vs.length = s) (hb : off + s ≤ z.length) (hr : FillN pl (splice z off vs) rest r) : FillN pl z ((i, .agg vs.toArray) :: rest) r

theorem foldl_splice : ∀ (vs : List Value) (cs : List Value) (off k : Nat), off + k + vs.length ≤ cs.length →
    (vs.zipIdx k).foldl (fun (c : Array Value) (p : Value × Nat) => c.setIfInBounds (off + p.2) p.1) cs.toArray = (splice cs (off + k) vs).toArray := by
  intro vs
  induction vs with
  | nil => intro cs off k _; simp [splice]
  | cons v vs ih =>
    intro cs off k h
    simp only [List.length_cons] at h
    simp only [List.zipIdx_cons, List.foldl_cons, List.setIfInBounds_toArray]
    rw [ih _ off (k + 1) (by simp; omega)]
    congr 1
    simp only [splice, List.length_cons]
    have e1 : List.take (off + (k + 1)) (cs.set (off + k) v) = List.take (off + k) cs ++ [v] := by
      rw [show off + (k + 1) = off + k + 1 by omega, List.take_succ_eq_append_getElem (by simp; omega)]
      simp [List.take_set_of_le]
    rw [e1, show off + (k + 1) + vs.length = off + k + (vs.length + 1) by omega, List.drop_set_of_lt (by omega)]
    simp

theorem FillN.run {pl : List (Nat × Nat)} {z : List Value} {vs : List (Nat × Value)} {r : List Value} (h : FillN pl z vs r) : Instr.fill (pl.toArray[·]?) z.toArray vs = some r.toArray := by
  have e : (fun i => pl.toArray[i]?) = fun i => pl[i]? := funext fun _ => List.getElem?_toArray
  show Instr.fill (fun i => pl.toArray[i]?) z.toArray vs = some r.toArray
  rw [e]
  induction h with
  | nil => rfl
  | @one i off v z z' rest r hi hv hs _ ih =>
    obtain ⟨rfl, hlt⟩ := hs.eq
    have hc : v.cells = #[v] := by cases v <;> first | rfl | exact absurd hv (by simp [Value.oneCell'])
    simp only [Instr.fill, hi, hc]
    have h1 : ¬ (#[v].size ≠ 1 ∨ off + #[v].size > z.toArray.size) := by simp; omega
    rw [if_neg (by simpa using h1)]
    simpa using ih
  | @agg i off s vs z rest r hi hl hb _ ih =>
    have hc : (Value.agg vs.toArray).cells = vs.toArray := rfl
    simp only [Instr.fill, hi, hc]
    have h1 : (decide (vs.toArray.size ≠ s) || decide (off + vs.toArray.size > z.toArray.size)) = false := by
      simp; omega
    rw [h1]
    have := foldl_splice vs z off 0 (by omega)
    simp only [Nat.add_zero] at this
    rw [← ih, ← this]
    simp

section
variable {P : Program} {C : Cx} {hs : List Assn} {ρ : Env} {d : Option Tmp} {ty : TypeId} {pos : String} {af : Array Edge} {g : Option (Nat × Bool)} {t : TypeId}
theorem Rd.buildS {parts : List (Nat × Operand)} {vs : List (Nat × Value)} {zs r : List Value} {pl : List (Nat × Nat)} (h : EvP C.n ρ parts vs) (hb : Bld P t zs pl) (hf : FillN pl zs vs r) :
    Rd P C hs ρ ⟨d, .build t parts.toArray, ty, pos, af, g⟩ (.agg r.toArray) :=
  Rd.build (h.map) fun w => hb _ _ w (by simpa using hf.run)
end

/-- An assertion that stands for several is opened. -/
theorem J.openA {P : Program} {C : Cx} {Q : Exit → Act → World → Prop} {ρ : Env} {rest : List Assn} {A : Assn} {c : Code} {X : Type} {p : X → Prop} {L : X → List Assn} (hA : ∀ h, A h → ∃ x, p x ∧ Stars (L x) h)
    (k : ∀ x, p x → J P C c Q ρ (L x ++ rest)) : J P C c Q ρ (A :: rest) := by
  rintro w ⟨h, ⟨h1, h2, a, s, cm, rfl⟩, b, f⟩
  obtain ⟨x, hp, s1⟩ := hA h1 a
  exact k x hp w ⟨_, Stars.append.2 ⟨h1, h2, s1, s, cm, rfl⟩, b, f⟩
theorem Stars.shut {A : Assn} {L rest : List Assn} {h : Frag} (hA : ∀ h, Stars L h → A h) (s : Stars (L ++ rest) h) : Stars (A :: rest) h := by
  obtain ⟨h1, h2, a, b, c, rfl⟩ := Stars.append.1 s
  exact ⟨h1, h2, hA h1 a, b, c, rfl⟩

end Go.Proofs.Ytfnoaohbjlnkgaa
