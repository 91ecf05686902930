/-
  Regions that draw their order: the effects stand in a chain, each reading operation is checked at every stage at which it may be carried out. No program in it.
-/
import Derived.Test.YtfnoaohbjlnkgaaA3
namespace Go.Proofs.Ytfnoaohbjlnkgaa

def nthOp : List Oper → Nat → Option Oper
  | [], _ => none
  | o :: _, 0 => some o
  | _ :: l, n + 1 => nthOp l n

theorem nthOp_eq : ∀ (l : List Oper) (n : Nat), nthOp l n = l[n]? := by
  intro l
  induction l with
  | nil => intro n; simp [nthOp]
  | cons o l ih => intro n; cases n with
    | zero => simp [nthOp]
    | succ n => simp [nthOp, ih]

/-- What is told of an operation: does it act; the stage from which it may be carried out; the last stage at which it may be open. -/
structure Lv where
  eff : Bool
  lo : Nat
  hi : Nat

def Lv.out (a : Lv) : Nat := if a.eff then a.lo + 1 else a.lo

def lvAt : List Lv → Nat → Lv
  | [], _ => ⟨false, 0, 0⟩
  | a :: _, 0 => a
  | _ :: l, n + 1 => lvAt l n

def preds (o : Oper) : List Nat := (o.after.toList.filter (Region.binds .any ·)).map (·.on)
def looks (l : List Oper) (o : Oper) : List Tmp :=
  (o.op.operands.toList.filterMap fun | .tmp t => some t | _ => none) ++
  (match o.guard with
   | some (j, _) => (((nthOp l j).bind (·.dst))).toList
   | none => [])

/-- The carried ones and the new ones of a stage. -/
def carAt (lv : List Lv) (n s : Nat) : List Nat := (List.range n).filter fun i => !(lvAt lv i).eff && Nat.blt (lvAt lv i).lo s && Nat.ble s (lvAt lv i).hi
def newAt (lv : List Lv) (n s : Nat) : List Nat := (List.range n).filter fun i => !(lvAt lv i).eff && Nat.beq (lvAt lv i).lo s

def okOp (l : List Oper) (lv : List Lv) (es : List Nat) (i : Nat) (o : Oper) : Bool :=
  let a := lvAt lv i
  -- edges lead back
  (preds o).all (fun p => Nat.blt p i) &&
  -- lo
  (preds o).all (fun p => Nat.ble (lvAt lv p).out a.lo) &&
  (Nat.beq a.lo 0 || (preds o).any fun p => Nat.ble a.lo (lvAt lv p).out) &&
  -- hi
  (Nat.ble es.length a.hi || (a.eff && Nat.beq a.hi a.lo) || (List.range l.length).any fun j => Nat.blt i j && Nat.ble (lvAt lv j).hi a.hi && ((nthOp l j).any fun o' => (preds o').contains i)) &&
  -- effects
  (!a.eff || (es[a.lo]? == some i)) &&
  (a.eff || o.dst.isSome) &&
  -- slots
  ((looks l o).all fun t => (List.range l.length).all fun j => match nthOp l j with
    | some o' => !(o'.dst == some t) || ((preds o).contains j && Nat.blt j i) || (!(Nat.beq i j) && (lvAt lv j).eff && Nat.ble a.hi (lvAt lv j).lo)
    | none => true) &&
  ((List.range l.length).all fun j => Nat.beq i j || (match o.dst with | none => true | some t => match nthOp l j with | some o' => !(o'.dst == some t) | none => true)) &&
  (match o.op with | .select .. => false | .defer _ => false | _ => true) &&
  (match o.guard with | none => true | some (j, _) => (preds o).contains j && ((nthOp l j).bind (·.dst)).isSome)

def okFrom (l : List Oper) (lv : List Lv) (es : List Nat) : Nat → List Oper → Bool
  | _, [] => true
  | i, o :: r => okOp l lv es i o && okFrom l lv es (i + 1) r

def okEff (lv : List Lv) : Nat → List Nat → Bool
  | _, [] => true
  | k, e :: es => (lvAt lv e).eff && Nat.beq (lvAt lv e).lo k && okEff lv (k + 1) es

def okAll (l : List Oper) (lv : List Lv) (es : List Nat) : Bool := okFrom l lv es 0 l && okEff lv 0 es && es.all (fun e => Nat.blt e l.length)

section
variable {P : Program} {C : Cx} {Q : Exit → Act → World → Prop}

/-- A reading operation of a region, its guard heeded. -/
def RdAt (P : Program) (C : Cx) (l : List Oper) (hs : List Assn) (ρ : Env) (o : Oper) (v : Value) : Prop :=
  match o.guard with
  | none => Rd P C hs ρ o v
  | some (j, want) => ∃ t x, (nthOp l j).bind (·.dst) = some t ∧ EvO C.n ρ t x ∧ (x = some want → Rd P C hs ρ o v) ∧ (x ≠ some want → v = undef)

def EfAt (P : Program) (C : Cx) (l : List Oper) (hs : List Assn) (ρ : Env) (o : Oper) (K : Value → List Assn → Prop) : Prop :=
  match o.guard with
  | none => Ef P C hs ρ o K
  | some (j, want) => ∃ t x, (nthOp l j).bind (·.dst) = some t ∧ EvO C.n ρ t x ∧ (x = some want → Ef P C hs ρ o K) ∧ (x ≠ some want → K undef hs)

/-- The new operations of a stage, one by one. -/
def DNew (P : Program) (C : Cx) (l : List Oper) (hs : List Assn) : List Nat → Env → (Env → Prop) → Prop
  | [], ρ, K => K ρ
  | i :: r, ρ, K => ∃ o d v, nthOp l i = some o ∧ o.dst = some d ∧ RdAt P C l hs ρ o v ∧ DNew P C l hs r (ext [(d, v)] ρ) K

/-- The carried operations of a stage. -/
def DCar (P : Program) (C : Cx) (l : List Oper) (hs : List Assn) (ρ : Env) : List Nat → Prop
  | [] => True
  | i :: r => (∃ o d, nthOp l i = some o ∧ o.dst = some d ∧ RdAt P C l hs ρ o (ρ d)) ∧ DCar P C l hs ρ r

def DRun (P : Program) (C : Cx) (l : List Oper) (lv : List Lv) (Q : Exit → Act → World → Prop) : List Nat → Nat → Env → List Assn → Prop
  | [], s, ρ, hs => DCar P C l hs ρ (carAt lv l.length s) ∧ DNew P C l hs (newAt lv l.length s) ρ fun ρ' => At C Q .normal ρ' hs
  | e :: es, s, ρ, hs => DCar P C l hs ρ (carAt lv l.length s) ∧ DNew P C l hs (newAt lv l.length s) ρ fun ρ' =>
      ∃ o, nthOp l e = some o ∧ EfAt P C l hs ρ' o fun v hs' => DRun P C l lv Q es (s + 1) (putd o.dst v ρ') hs'

/-! ### soundness -/
variable {l : List Oper} {lv : List Lv} {es : List Nat}

theorem okFrom_at : ∀ {r : List Oper} {i : Nat}, okFrom l lv es i r = true → ∀ {k : Nat} {o : Oper}, r[k]? = some o → okOp l lv es (i + k) o = true := by
  intro r
  induction r with
  | nil => intro i _ k o h; simp at h
  | cons a r ih =>
    intro i h k o hk
    simp only [okFrom, Bool.and_eq_true] at h
    cases k with
    | zero => simp at hk; subst hk; exact h.1
    | succ k =>
      have := ih h.2 (k := k) (o := o) (by simpa using hk)
      rwa [show i + (k + 1) = i + 1 + k by omega]

structure OkOp (l : List Oper) (lv : List Lv) (es : List Nat) (i : Nat) (o : Oper) : Prop where
  back : ∀ p ∈ preds o, p < i
  lo : ∀ p ∈ preds o, (lvAt lv p).out ≤ (lvAt lv i).lo
  lo' : (lvAt lv i).lo = 0 ∨ ∃ p ∈ preds o, (lvAt lv i).lo ≤ (lvAt lv p).out
  hi : es.length ≤ (lvAt lv i).hi ∨ ((lvAt lv i).eff = true ∧ (lvAt lv i).hi = (lvAt lv i).lo) ∨ ∃ j o', i < j ∧ (lvAt lv j).hi ≤ (lvAt lv i).hi ∧ l[j]? = some o' ∧ i ∈ preds o'
  eff : (lvAt lv i).eff = true → es[(lvAt lv i).lo]? = some i
  dst : (lvAt lv i).eff = false → ∃ d, o.dst = some d
  slot : ∀ t ∈ looks l o, ∀ j o', l[j]? = some o' → o'.dst = some t → (j ∈ preds o ∧ j < i) ∨ (i ≠ j ∧ (lvAt lv j).eff = true ∧ (lvAt lv i).hi ≤ (lvAt lv j).lo)
  uniq : ∀ t, o.dst = some t → ∀ j o', l[j]? = some o' → i ≠ j → o'.dst ≠ some t
  sel : ∀ cs b, o.op ≠ .select cs b
  dfr : ∀ c, o.op ≠ .defer c
  grd : ∀ j want, o.guard = some (j, want) → j ∈ preds o ∧ ∃ t, (nthOp l j).bind (·.dst) = some t

theorem okOp_spec {i : Nat} {o : Oper} (hi : l[i]? = some o) (h : okOp l lv es i o = true) : OkOp l lv es i o := by
  have hil : i < l.length := (List.getElem?_eq_some_iff.1 hi).1
  unfold okOp at h
  simp only [Bool.and_eq_true] at h
  obtain ⟨⟨⟨⟨⟨⟨⟨⟨⟨h1, h2⟩, h3⟩, h4⟩, h5⟩, h6⟩, h7⟩, h8⟩, h9⟩, h10⟩ := h
  refine ⟨?_, ?_, ?_, ?_, ?_, ?_, ?_, ?_, ?_, ?_, ?_⟩
  · intro p hp
    have := List.all_eq_true.1 h1 p hp
    exact Nat.lt_of_succ_le (by simpa [Nat.blt] using this)
  · intro p hp
    have := List.all_eq_true.1 h2 p hp
    simpa using this
  · rcases Bool.or_eq_true _ _ ▸ h3 with u | u
    · left; simpa using u
    · right
      obtain ⟨p, hp, u⟩ := List.any_eq_true.1 u
      exact ⟨p, hp, by simpa using u⟩
  · rcases Bool.or_eq_true _ _ ▸ h4 with u | u
    · rcases Bool.or_eq_true _ _ ▸ u with u | u
      · left; simpa using u
      · right; left
        obtain ⟨u, v⟩ := Bool.and_eq_true _ _ ▸ u
        exact ⟨u, by simpa using v⟩
    · right; right
      obtain ⟨j, hj, u⟩ := List.any_eq_true.1 u
      simp only [Bool.and_eq_true] at u
      obtain ⟨⟨u1, u2⟩, u3⟩ := u
      cases hn : nthOp l j with
      | none => rw [hn] at u3; cases u3
      | some o' =>
        rw [hn] at u3
        exact ⟨j, o', Nat.lt_of_succ_le (by simpa [Nat.blt] using u1), by simpa using u2, by rw [← nthOp_eq]; exact hn, by simpa using u3⟩
  · intro he
    rw [he] at h5
    simpa using h5
  · intro he
    rw [he] at h6
    cases hd : o.dst with
    | none => rw [hd] at h6; cases h6
    | some d => exact ⟨d, rfl⟩
  · intro t ht j o' hj hd
    have := List.all_eq_true.1 (List.all_eq_true.1 h7 t ht) j (List.mem_range.2 (List.getElem?_eq_some_iff.1 hj).1)
    rw [nthOp_eq, hj] at this
    simp only [hd] at this
    rcases Bool.or_eq_true _ _ ▸ this with u | u
    · rcases Bool.or_eq_true _ _ ▸ u with u | u
      · simp at u
      · left
        obtain ⟨u, v⟩ := Bool.and_eq_true _ _ ▸ u
        exact ⟨by simpa using u, Nat.lt_of_succ_le (by simpa [Nat.blt] using v)⟩
    · right
      simp only [Bool.and_eq_true] at u
      obtain ⟨⟨u1, u2⟩, u3⟩ := u
      exact ⟨fun e => by subst e; simp at u1, u2, by simpa using u3⟩
  · intro t ht j o' hj hne hd
    have := List.all_eq_true.1 h8 j (List.mem_range.2 (List.getElem?_eq_some_iff.1 hj).1)
    rw [ht, nthOp_eq, hj] at this
    simp only [hd] at this
    rcases Bool.or_eq_true _ _ ▸ this with u | u
    · exact hne (by simpa using u)
    · simp at u
  · intro cs b e
    rw [e] at h9; cases h9
  · intro c e
    rw [e] at h9; cases h9
  · intro j want e
    rw [e] at h10
    obtain ⟨u, v⟩ := Bool.and_eq_true _ _ ▸ h10
    refine ⟨by simpa using u, ?_⟩
    cases hd : (nthOp l j).bind (·.dst) with
    | none => rw [hd] at v; cases v
    | some t => exact ⟨t, rfl⟩

theorem okEff_at : ∀ {es : List Nat} {k : Nat}, okEff lv k es = true → ∀ {j e : Nat}, es[j]? = some e → (lvAt lv e).eff = true ∧ (lvAt lv e).lo = k + j := by
  intro es
  induction es with
  | nil => intro k _ j e h; simp at h
  | cons a es ih =>
    intro k h j e hj
    simp only [okEff, Bool.and_eq_true] at h
    cases j with
    | zero => simp at hj; subst hj; exact ⟨h.1.1, by simpa using h.1.2⟩
    | succ j =>
      have := ih h.2 (j := j) (e := e) (by simpa using hj)
      exact ⟨this.1, by omega⟩

/-- The frame as it is and the frame as it is thought to be. -/
def Like (l : List Oper) (lv : List Lv) (L : Nat → Bool) (ρr ρv : Env) : Prop :=
  ∀ t, (∀ i o, l[i]? = some o → L i = false → (lvAt lv i).eff = false → o.dst ≠ some t) → ρr t = ρv t

theorem rd_congr {hs : List Assn} {ρ ρ' : Env} {o : Oper} {v : Value} (hsel : ∀ cs b, o.op ≠ .select cs b) (hd : ∀ c, o.op ≠ .defer c)
    (hq : ∀ t, Operand.tmp t ∈ o.op.operands → ρ t = ρ' t) (h : Rd P C hs ρ o v) : Rd P C hs ρ' o v := by
  intro w hi
  have := h w hi
  rw [Oper.semAt_eq _ _ _ hd] at this ⊢
  rw [← this]
  congr 1
  refine execOp_congr o hsel fun x hx => ?_
  cases x with
  | tmp t => show (act C.n C.ds ρ').eval _ = (act C.n C.ds ρ).eval _; rw [act_eval, act_eval, hq t hx]
  | const v => rfl
  | global g => rfl
  | func f => rfl

theorem ef_congr {hs : List Assn} {ρ ρ' : Env} {o : Oper} {K : Value → List Assn → Prop} (hsel : ∀ cs b, o.op ≠ .select cs b) (hd : ∀ c, o.op ≠ .defer c)
    (hq : ∀ t, Operand.tmp t ∈ o.op.operands → ρ t = ρ' t) (h : Ef P C hs ρ o K) : Ef P C hs ρ' o K := by
  intro w hi
  have := h w hi
  rw [Oper.semAt_eq _ _ _ hd] at this ⊢
  have e : execOp (C.act ρ').eval o = execOp (C.act ρ).eval o := by
    refine execOp_congr o hsel fun x hx => ?_
    cases x with
    | tmp t => show (act C.n C.ds ρ').eval _ = (act C.n C.ds ρ).eval _; rw [act_eval, act_eval, hq t hx]
    | const v => rfl
    | global g => rfl
    | func f => rfl
  rw [e]
  exact this

theorem mem_looks_op {o : Oper} {t : Tmp} (h : Operand.tmp t ∈ o.op.operands) : t ∈ looks l o := by
  unfold looks
  refine List.mem_append.2 (.inl (List.mem_filterMap.2 ⟨.tmp t, by simpa using h, rfl⟩))
theorem mem_looks_guard {o : Oper} {j : Nat} {want : Bool} {t : Tmp} (hg : o.guard = some (j, want)) (h : (nthOp l j).bind (·.dst) = some t) : t ∈ looks l o := by
  unfold looks
  rw [hg]
  refine List.mem_append.2 (.inr ?_)
  simp [h]

theorem ev_congr {n : Nat} {ρ ρ' : Env} {t : Tmp} {v : Value} (h : ρ t = ρ' t) (e : Ev n ρ (.tmp t) v) : Ev n ρ' (.tmp t) v := fun ds => by
  have := e ds
  rw [act_eval] at this ⊢
  rw [← h]; exact this

theorem evO_congr {n : Nat} {ρ ρ' : Env} {t : Nat} {x : Option Bool} (h : ρ t = ρ' t) (e : EvO n ρ t x) : EvO n ρ' t x := by
  cases x
  · exact ev_congr h e
  · exact ev_congr h e
theorem rdAt_congr {hs : List Assn} {ρ ρ' : Env} {i : Nat} {o : Oper} {v : Value} (k : OkOp l lv es i o) (hq : ∀ t ∈ looks l o, ρ t = ρ' t) (h : RdAt P C l hs ρ o v) : RdAt P C l hs ρ' o v := by
  unfold RdAt at h ⊢
  cases hg : o.guard with
  | none => rw [hg] at h; exact rd_congr k.sel k.dfr (fun t ht => hq t (mem_looks_op ht)) h
  | some z =>
    obtain ⟨j, want⟩ := z
    rw [hg] at h
    obtain ⟨t, b, h1, h2, h3, h4⟩ := h
    exact ⟨t, b, h1, evO_congr (hq t (mem_looks_guard hg h1)) h2, fun e => rd_congr k.sel k.dfr (fun t ht => hq t (mem_looks_op ht)) (h3 e), h4⟩

theorem efAt_congr {hs : List Assn} {ρ ρ' : Env} {i : Nat} {o : Oper} {K : Value → List Assn → Prop} (k : OkOp l lv es i o) (hq : ∀ t ∈ looks l o, ρ t = ρ' t) (h : EfAt P C l hs ρ o K) : EfAt P C l hs ρ' o K := by
  unfold EfAt at h ⊢
  cases hg : o.guard with
  | none => rw [hg] at h; exact ef_congr k.sel k.dfr (fun t ht => hq t (mem_looks_op ht)) h
  | some z =>
    obtain ⟨j, want⟩ := z
    rw [hg] at h
    obtain ⟨t, b, h1, h2, h3, h4⟩ := h
    exact ⟨t, b, h1, evO_congr (hq t (mem_looks_guard hg h1)) h2, fun e => ef_congr k.sel k.dfr (fun t ht => hq t (mem_looks_op ht)) (h3 e), h4⟩

/-- What a stage's new operations come to. -/
theorem dnew_out {hs : List Assn} {K : Env → Prop} (ok : ∀ i o, l[i]? = some o → OkOp l lv es i o) : ∀ (is : List Nat) (ρ : Env), List.Pairwise (· < ·) is → (∀ i ∈ is, (lvAt lv i).eff = false) → DNew P C l hs is ρ K →
    ∃ ρ', K ρ' ∧ (∀ t, (∀ i ∈ is, ∀ o, l[i]? = some o → o.dst ≠ some t) → ρ' t = ρ t) ∧ ∀ i ∈ is, ∃ o d, l[i]? = some o ∧ o.dst = some d ∧ RdAt P C l hs ρ' o (ρ' d) := by
  intro is
  induction is with
  | nil => intro ρ _ _ h; exact ⟨ρ, h, fun _ _ => rfl, by simp⟩
  | cons i is ih =>
    intro ρ hp hne h
    obtain ⟨o, d, v, ho, hd, hr, h⟩ := h
    rw [nthOp_eq] at ho
    obtain ⟨hp1, hp2⟩ := List.pairwise_cons.1 hp
    obtain ⟨ρ', hK, heq, hall⟩ := ih _ hp2 (fun j hj => hne j (List.mem_cons_of_mem _ hj)) h
    have k := ok i o ho
    have hlook : ∀ t ∈ looks l o, ρ t = ρ' t := fun t ht => by
      have h1 : ρ' t = ext [(d, v)] ρ t := heq t fun j hj o' ho' hd' => by
        rcases k.slot t ht j o' ho' hd' with ⟨_, u⟩ | ⟨_, u, _⟩
        · have := hp1 j hj; omega
        · rw [hne j (List.mem_cons_of_mem _ hj)] at u; cases u
      rw [h1, ext_cons]
      show ρ t = if t = d then v else ρ t
      rw [if_neg]
      rintro rfl
      rcases k.slot t ht i o ho hd with ⟨_, u⟩ | ⟨u, _, _⟩
      · omega
      · exact u rfl
    have hdv : ρ' d = v := by
      rw [heq d fun j hj o' ho' => k.uniq d hd j o' ho' (by have := hp1 j hj; omega)]
      exact if_pos rfl
    refine ⟨ρ', hK, fun t ht => ?_, fun j hj => ?_⟩
    · rw [heq t fun j hj => ht j (List.mem_cons_of_mem _ hj)]
      show (if t = d then v else ρ t) = ρ t
      rw [if_neg]
      rintro rfl
      exact ht i (List.mem_cons_self ..) o ho hd
    · rcases List.mem_cons.1 hj with rfl | hj
      · exact ⟨o, d, ho, hd, by rw [hdv]; exact rdAt_congr k hlook hr⟩
      · exact hall j hj

theorem dcar_out {hs : List Assn} {ρ : Env} : ∀ {is : List Nat}, DCar P C l hs ρ is → ∀ i ∈ is, ∃ o d, l[i]? = some o ∧ o.dst = some d ∧ RdAt P C l hs ρ o (ρ d) := by
  intro is
  induction is with
  | nil => intro _ i hi; cases hi
  | cons j is ih =>
    rintro ⟨⟨o, d, a, b, c⟩, h⟩ i hi
    rcases List.mem_cons.1 hi with rfl | hi
    · exact ⟨o, d, by rw [← nthOp_eq]; exact a, b, c⟩
    · exact ih h i hi

/-- The state between two operations: s effects are done. -/
structure St (P : Program) (C : Cx) (Q : Exit → Act → World → Prop) (l : List Oper) (lv : List Lv) (es : List Nat) (L : Nat → Bool) (s : Nat) (ρv : Env) (hs : List Assn) : Prop where
  closed : ∀ i o, l[i]? = some o → L i = true → ∀ p ∈ preds o, L p = true
  mem : ∀ i o, l[i]? = some o → L i = true → (lvAt lv i).lo ≤ s
  effs : ∀ i o, l[i]? = some o → (lvAt lv i).eff = true → (L i = true ↔ (lvAt lv i).lo < s)
  bound : s ≤ es.length
  rds : ∀ i o, l[i]? = some o → L i = false → (lvAt lv i).eff = false → (lvAt lv i).lo ≤ s → ∃ d, o.dst = some d ∧ RdAt P C l hs ρv o (ρv d)
  next : match es.drop s with
    | [] => At C Q .normal ρv hs
    | e :: es' => ∃ o, nthOp l e = some o ∧ EfAt P C l hs ρv o fun v hs' => DRun P C l lv Q es' (s + 1) (putd o.dst v ρv) hs'

theorem hi_bound (ok : ∀ i o, l[i]? = some o → OkOp l lv es i o) {L : Nat → Bool} {s : Nat} (closed : ∀ i o, l[i]? = some o → L i = true → ∀ p ∈ preds o, L p = true)
    (effs : ∀ i o, l[i]? = some o → (lvAt lv i).eff = true → (L i = true ↔ (lvAt lv i).lo < s)) (bound : s ≤ es.length) :
    ∀ m i o, l.length - i = m → l[i]? = some o → L i = false → s ≤ (lvAt lv i).hi := by
  intro m
  induction m using Nat.strongRecOn with
  | _ m ih =>
    intro i o hm ho hL
    rcases (ok i o ho).hi with u | ⟨u, v⟩ | ⟨j, o', u, v, x, y⟩
    · omega
    · have := (effs i o ho u)
      rw [hL] at this
      have h2 : ¬ (lvAt lv i).lo < s := fun h => by have := this.2 h; cases this
      omega
    · have hjl : j < l.length := (List.getElem?_eq_some_iff.1 x).1
      have hLj : L j = false := by
        cases hj : L j with
        | false => rfl
        | true => have := closed j o' x hj i y; rw [hL] at this; cases this
      have := ih (l.length - j) (by omega) j o' rfl x hLj
      omega

/-- A stage begins. -/
theorem st_of_run (ok : ∀ i o, l[i]? = some o → OkOp l lv es i o) {L : Nat → Bool} {s : Nat} {ρ : Env} {hs : List Assn}
    (closed : ∀ i o, l[i]? = some o → L i = true → ∀ p ∈ preds o, L p = true) (mem : ∀ i o, l[i]? = some o → L i = true → (lvAt lv i).lo < s ∨ (s = 0 ∧ False) ∨ ((lvAt lv i).lo ≤ s ∧ (lvAt lv i).eff = true))
    (effs : ∀ i o, l[i]? = some o → (lvAt lv i).eff = true → (L i = true ↔ (lvAt lv i).lo < s)) (bound : s ≤ es.length)
    (h : DRun P C l lv Q (es.drop s) s ρ hs) :
    ∃ ρv, St P C Q l lv es L s ρv hs ∧ ∀ t, (∀ i o, l[i]? = some o → L i = false → (lvAt lv i).eff = false → o.dst ≠ some t) → ρv t = ρ t := by
  have hcar : DCar P C l hs ρ (carAt lv l.length s) := by
    cases he : es.drop s with
    | nil => rw [he] at h; exact h.1
    | cons e es' => rw [he] at h; exact h.1
  have hnew : DNew P C l hs (newAt lv l.length s) ρ fun ρ' => match es.drop s with
      | [] => At C Q .normal ρ' hs
      | e :: es' => ∃ o, nthOp l e = some o ∧ EfAt P C l hs ρ' o fun v hs' => DRun P C l lv Q es' (s + 1) (putd o.dst v ρ') hs' := by
    cases he : es.drop s with
    | nil => rw [he] at h; exact h.2
    | cons e es' => rw [he] at h; exact h.2
  have hpw : List.Pairwise (· < ·) (newAt lv l.length s) := List.Pairwise.filter _ List.pairwise_lt_range
  have hmemN : ∀ i, i ∈ newAt lv l.length s ↔ i < l.length ∧ (lvAt lv i).eff = false ∧ (lvAt lv i).lo = s := by
    intro i
    simp [newAt, List.mem_filter]
  obtain ⟨ρv, hK, heq, hall⟩ := dnew_out ok _ ρ hpw (fun i hi => ((hmemN i).1 hi).2.1) hnew
  have hnotL : ∀ i o, l[i]? = some o → (lvAt lv i).eff = false → (lvAt lv i).lo = s → L i = false := fun i o ho he hlo => by
    cases hL : L i with
    | false => rfl
    | true =>
      rcases mem i o ho hL with u | ⟨_, u⟩ | ⟨_, u⟩
      · omega
      · exact u.elim
      · rw [he] at u; cases u
  refine ⟨ρv, ⟨closed, fun i o ho hL => ?_, effs, bound, fun i o ho hL he hlo => ?_, hK⟩, fun t ht => heq t fun i hi o ho => ?_⟩
  · rcases mem i o ho hL with u | ⟨_, u⟩ | ⟨u, _⟩
    · omega
    · exact u.elim
    · exact u
  · have hil : i < l.length := (List.getElem?_eq_some_iff.1 ho).1
    by_cases hq : (lvAt lv i).lo = s
    · obtain ⟨o', d, a, b, c⟩ := hall i ((hmemN i).2 ⟨hil, he, hq⟩)
      rw [ho] at a; cases a
      exact ⟨d, b, c⟩
    · have hhi := hi_bound ok closed effs bound _ i o rfl ho hL
      have hmc : i ∈ carAt lv l.length s := by
        simp only [carAt, List.mem_filter, List.mem_range]
        refine ⟨hil, ?_⟩
        rw [he]
        simp [Nat.blt]
        omega
      obtain ⟨o', d, a, b, c⟩ := dcar_out hcar i hmc
      rw [ho] at a; cases a
      have k := ok i o ho
      have hlook : ∀ t ∈ looks l o, ρ t = ρv t := fun t ht => (heq t fun j hj o' ho' hd' => by
        obtain ⟨_, hje, hjlo⟩ := (hmemN j).1 hj
        rcases k.slot t ht j o' ho' hd' with ⟨u, _⟩ | ⟨_, u, _⟩
        · have := k.lo j u
          simp only [Lv.out, hje] at this
          simp at this
          omega
        · rw [hje] at u; cases u).symm
      have hdv : ρv d = ρ d := heq d fun j hj o' ho' hd' => by
        have hji : i ≠ j := fun e => by
          subst e
          exact hq ((hmemN i).1 hj).2.2
        exact k.uniq d b j o' ho' hji hd'
      exact ⟨d, b, by rw [hdv]; exact rdAt_congr k hlook c⟩
  · obtain ⟨_, he, hlo⟩ := (hmemN i).1 hi
    exact ht i o ho (hnotL i o ho he hlo) he

theorem draw_any (ok : ∀ i o, l[i]? = some o → OkOp l lv es i o) (hes : ∀ k e, es[k]? = some e → (lvAt lv e).eff = true ∧ (lvAt lv e).lo = k) (hel : ∀ e ∈ es, e < l.length) :
    ∀ (fuel : Nat) (listed : Array Bool) (ρr ρv : Env) (s : Nat) (hs : List Assn) (w : World), listed.size = l.length → ((List.range l.length).filter fun i => !listed.getD i false).length ≤ fuel →
      St P C Q l lv es (fun i => listed.getD i false) s ρv hs → Like l lv (fun i => listed.getD i false) ρr ρv → C.inv hs w →
      wpAnyIn (wideR C.r) 0 P .any l.toArray Q fuel listed (C.act ρr) w := by
  intro fuel
  have hgd : ∀ (listed : Array Bool) (i : Nat), i < listed.size → listed.getD i true = listed.getD i false := fun listed i h => by simp [h]
  have hready : ∀ (listed : Array Bool) (i : Nat), listed.size = l.length → (i ∈ Region.ready .any l.toArray listed ↔ ∃ o, l[i]? = some o ∧ listed.getD i false = false ∧ ∀ p ∈ preds o, listed.getD p false = true) := by
    intro listed i hsz
    rw [mem_ready]
    constructor
    · rintro ⟨h1, o, ho, h2⟩
      have ho' : l[i]? = some o := by simpa using ho
      refine ⟨o, ho', ?_, fun p hp => ?_⟩
      · rw [← hgd listed i (by rw [hsz]; exact (List.getElem?_eq_some_iff.1 ho').1)]; exact h1
      · obtain ⟨e, he, rfl⟩ := List.mem_map.1 hp
        obtain ⟨he1, he2⟩ := List.mem_filter.1 he
        exact h2 e (by simpa using he1) he2
    · rintro ⟨o, ho, h1, h2⟩
      refine ⟨?_, o, by simpa using ho, fun e he hb => h2 _ (List.mem_map.2 ⟨e, List.mem_filter.2 ⟨by simpa using he, hb⟩, rfl⟩)⟩
      rw [hgd listed i (by rw [hsz]; exact (List.getElem?_eq_some_iff.1 ho).1)]; exact h1
  have hdone : ∀ (listed : Array Bool), listed.size = l.length → Region.ready .any l.toArray listed = [] → ∀ i, i < l.length → listed.getD i false = true := by
    intro listed hsz hr i
    induction i using Nat.strongRecOn with
    | _ i ih =>
      intro hi
      cases hL : listed.getD i false with
      | true => rfl
      | false =>
        have : i ∈ Region.ready .any l.toArray listed := (hready listed i hsz).2 ⟨l[i], by simp [hi], hL, fun p hp => by
          have := (ok i l[i] (by simp [hi])).back p hp
          exact ih p this (by omega)⟩
        rw [hr] at this; cases this
  have hfin : ∀ (listed : Array Bool) (ρr ρv : Env) (s : Nat) (hs : List Assn) (w : World), listed.size = l.length → (∀ i, i < l.length → listed.getD i false = true) →
      St P C Q l lv es (fun i => listed.getD i false) s ρv hs → Like l lv (fun i => listed.getD i false) ρr ρv → C.inv hs w → Q .normal (C.act ρr) w := by
    intro listed ρr ρv s hs w hsz hall st like hi
    have hρ : ρr = ρv := funext fun t => like t fun i o ho hL => by
      have := hall i (List.getElem?_eq_some_iff.1 ho).1
      cases this.symm.trans hL
    have hs' : es.drop s = [] := by
      cases hd : es.drop s with
      | nil => rfl
      | cons e es' =>
        have hk : es[s]? = some e := by
          have := congrArg List.head? hd
          rw [List.head?_drop] at this
          simpa using this
        obtain ⟨u, v⟩ := hes s e hk
        have hlt := hel e (List.mem_of_getElem? hk)
        have h1 := (st.effs e l[e] (by simp [hlt]) u).1 (hall e hlt)
        omega
    have := st.next
    rw [hs'] at this
    rw [hρ]; exact this w hi
  induction fuel with
  | zero =>
    intro listed ρr ρv s hs w hsz hcnt st like hi
    have hall : ∀ i, i < l.length → listed.getD i false = true := fun i hil => by
      cases hL : listed.getD i false with
      | true => rfl
      | false =>
        have : i ∈ (List.range l.length).filter fun i => !listed.getD i false := List.mem_filter.2 ⟨List.mem_range.2 hil, by simpa using hL⟩
        rw [List.length_eq_zero_iff.1 (Nat.le_zero.1 hcnt)] at this; cases this
    refine ⟨?_, hfin listed ρr ρv s hs w hsz hall st like hi⟩
    cases hr : Region.ready .any l.toArray listed with
    | nil => rfl
    | cons i r =>
      have : i ∈ Region.ready .any l.toArray listed := by rw [hr]; exact List.mem_cons_self ..
      obtain ⟨o, ho, h1, _⟩ := (hready listed i hsz).1 this
      rw [hall i (List.getElem?_eq_some_iff.1 ho).1] at h1; cases h1
  | succ fuel ih =>
    intro listed ρr ρv s hs w hsz hcnt st like hi
    refine ⟨fun hr => hfin listed ρr ρv s hs w hsz (hdone listed hsz hr) st like hi, fun i hir => ?_⟩
    obtain ⟨o, ho, hL, hpred⟩ := (hready listed i hsz).1 hir
    have hil : i < l.length := (List.getElem?_eq_some_iff.1 ho).1
    have k := ok i o ho
    have hsz' : (listed.setIfInBounds i true).size = l.length := by simpa using hsz
    have hset : ∀ j, (listed.setIfInBounds i true).getD j false = if j = i then true else listed.getD j false := fun j => by
      by_cases hj : j = i
      · subst hj; simp [hsz, hil]
      · rw [if_neg hj, getD_set_ne false (fun e => hj e.symm)]
    have hcnt' : ((List.range l.length).filter fun j => !(listed.setIfInBounds i true).getD j false).length ≤ fuel := by
      have hsub : ((List.range l.length).filter fun j => !(listed.setIfInBounds i true).getD j false).length < ((List.range l.length).filter fun j => !listed.getD j false).length := by
        rw [← List.countP_eq_length_filter, ← List.countP_eq_length_filter]
        have hgen : ∀ (r : List Nat), i ∈ r → r.countP (fun j => !(listed.setIfInBounds i true).getD j false) < r.countP (fun j => !listed.getD j false) := by
          intro r
          have hle : ∀ (r : List Nat), r.countP (fun j => !(listed.setIfInBounds i true).getD j false) ≤ r.countP (fun j => !listed.getD j false) := fun r =>
            List.countP_mono_left fun j _ hj => by
              rw [hset] at hj
              by_cases e : j = i
              · simp [e] at hj
              · simpa [e] using hj
          induction r with
          | nil => intro h; cases h
          | cons a r ih2 =>
            intro hm
            rw [List.countP_cons, List.countP_cons]
            by_cases e : a = i
            · subst e
              have h1 : (!(listed.setIfInBounds a true).getD a false) = false := by rw [hset]; simp
              have h2 : (!listed.getD a false) = true := by rw [hL]; rfl
              rw [h1, h2]
              have := hle r
              simp only [Bool.false_eq_true, if_false, if_true]
              omega
            · have h1 := ih2 (by rcases List.mem_cons.1 hm with h | h; exact absurd h.symm e; exact h)
              have h2 : (!(listed.setIfInBounds i true).getD a false) = (!listed.getD a false) := by rw [hset, if_neg e]
              rw [h2]; omega
        exact hgen _ (List.mem_range.2 hil)
      omega
    have hlookr : ∀ t ∈ looks l o, ρr t = ρv t := fun t ht => like t fun j oj hoj hLj hej hdj => by
      rcases k.slot t ht j oj hoj hdj with ⟨u, _⟩ | ⟨_, u, _⟩
      · have := hpred j u
        cases this.symm.trans hLj
      · rw [hej] at u; cases u
    have hlo : (lvAt lv i).lo ≤ s := by
      rcases k.lo' with u | ⟨p, hp, u⟩
      · omega
      · have hLp := hpred p hp
        have hpl : p < l.length := by have := k.back p hp; omega
        have hop : l[p]? = some l[p] := by simp [hpl]
        have h1 := st.mem p l[p] hop hLp
        unfold Lv.out at u
        split at u
        · rename_i he
          have := (st.effs p l[p] hop he).1 hLp
          omega
        · omega
    have hclosed' : ∀ j oj, l[j]? = some oj → (listed.setIfInBounds i true).getD j false = true → ∀ p ∈ preds oj, (listed.setIfInBounds i true).getD p false = true := by
      intro j oj hoj hj p hp
      rw [hset]
      by_cases e : p = i
      · simp [e]
      · rw [if_neg e]
        rw [hset] at hj
        by_cases e' : j = i
        · subst e'; rw [ho] at hoj; cases hoj; exact hpred p hp
        · rw [if_neg e'] at hj
          exact st.closed j oj hoj hj p hp
    have hwop : wpOpIn (wideR C.r) 0 P l.toArray Q i (wpAnyIn (wideR C.r) 0 P .any l.toArray Q fuel (listed.setIfInBounds i true)) (C.act ρr) w := by
      unfold wpOpIn
      have hoa : l.toArray[i]? = some o := by simpa using ho
      rw [hoa]
      simp only []
      by_cases heff : (lvAt lv i).eff = true
      · -- the next effect
        have hsi : (lvAt lv i).lo = s := by
          have := (st.effs i o ho heff)
          simp only [hL] at this
          have h2 : ¬ (lvAt lv i).lo < s := fun h => by have := this.2 h; cases this
          omega
        have hes_i := k.eff heff
        rw [hsi] at hes_i
        have hnext := st.next
        have hdr : es.drop s = i :: es.drop (s + 1) := by
          obtain ⟨hlt, he⟩ := List.getElem?_eq_some_iff.1 hes_i
          rw [List.drop_eq_getElem_cons hlt, he]
        rw [hdr] at hnext
        obtain ⟨o', ho', hef⟩ := hnext
        rw [nthOp_eq, ho] at ho'; cases ho'
        have hef' := efAt_congr k (fun t ht => (hlookr t ht).symm) hef
        have hgo : ∀ v hs', DRun P C l lv Q (es.drop (s + 1)) (s + 1) (putd o.dst v ρv) hs' → ∀ w', C.inv hs' w' →
            wpAnyIn (wideR C.r) 0 P .any l.toArray Q fuel (listed.setIfInBounds i true) (C.act (putd o.dst v ρr)) w' := by
          intro v hs' hrun w' hi'
          have hmem' : ∀ j oj, l[j]? = some oj → (listed.setIfInBounds i true).getD j false = true → (lvAt lv j).lo < s + 1 ∨ (s + 1 = 0 ∧ False) ∨ ((lvAt lv j).lo ≤ s + 1 ∧ (lvAt lv j).eff = true) := by
            intro j oj hoj hj
            rw [hset] at hj
            by_cases e : j = i
            · subst e; left; omega
            · rw [if_neg e] at hj
              have := st.mem j oj hoj hj
              left; omega
          have heffs' : ∀ j oj, l[j]? = some oj → (lvAt lv j).eff = true → ((listed.setIfInBounds i true).getD j false = true ↔ (lvAt lv j).lo < s + 1) := by
            intro j oj hoj he
            rw [hset]
            by_cases e : j = i
            · subst e; simp; omega
            · rw [if_neg e]
              have h1 : listed.getD j false = true ↔ (lvAt lv j).lo < s := st.effs j oj hoj he
              rw [h1]
              constructor
              · omega
              · intro h
                have h2 := (ok j oj hoj).eff he
                by_cases hq : (lvAt lv j).lo = s
                · rw [hq, hes_i] at h2
                  exact absurd (Option.some.inj h2).symm e
                · omega
          have hb' : s + 1 ≤ es.length := (List.getElem?_eq_some_iff.1 hes_i).1
          obtain ⟨ρv2, st2, heq2⟩ := st_of_run (L := fun j => (listed.setIfInBounds i true).getD j false) ok hclosed' hmem' heffs' hb' hrun
          refine ih (listed.setIfInBounds i true) (putd o.dst v ρr) ρv2 (s + 1) hs' w' hsz' hcnt' st2 ?_ hi'
          intro t ht
          rw [heq2 t ht]
          cases hd : o.dst with
          | none =>
            refine like t fun j oj hoj hLj hej => ht j oj hoj ?_ hej
            show (listed.setIfInBounds i true).getD j false = false
            rw [hset, if_neg (fun e => by subst e; rw [heff] at hej; cases hej)]; exact hLj
          | some d =>
            show (if t = d then v else ρr t) = if t = d then v else ρv t
            by_cases e : t = d
            · rw [if_pos e, if_pos e]
            · rw [if_neg e, if_neg e]
              refine like t fun j oj hoj hLj hej => ht j oj hoj ?_ hej
              show (listed.setIfInBounds i true).getD j false = false
              rw [hset, if_neg (fun e => by subst e; rw [heff] at hej; cases hej)]; exact hLj
        unfold EfAt at hef'
        cases hg : o.guard with
        | none =>
          rw [hg] at hef'
          rw [if_pos (wanted_none hg _)]
          exact uponIn_of hef' (fun v hs' h w' hi' => hgo v hs' h w' hi') w hi
        | some z =>
          obtain ⟨j, want⟩ := z
          rw [hg] at hef'
          obtain ⟨t, b, h1, h2, h3, h4⟩ := hef'
          have hy : yielded l.toArray (C.act ρr).tmps j = b := yieldedO (by rw [nthOp_eq] at h1; simpa using h1) h2
          by_cases hb : b = some want
          · rw [if_pos (by simp [Region.wanted, hg, hy, hb])]
            exact uponIn_of (h3 hb) (fun v hs' h w' hi' => hgo v hs' h w' hi') w hi
          · rw [if_neg (by simp [Region.wanted, hg, hy, hb])]
            refine ⟨fun _ _ => trivial, ?_⟩
            rw [act_putd]
            exact hgo undef hs (h4 hb) w hi
      · -- a reading operation
        have heff' : (lvAt lv i).eff = false := by simpa using heff
        obtain ⟨d, hd, hrd⟩ := st.rds i o ho hL heff' hlo
        have hrd' := rdAt_congr k (fun t ht => (hlookr t ht).symm) hrd
        have hgo : ∀ w', C.inv hs w' → wpAnyIn (wideR C.r) 0 P .any l.toArray Q fuel (listed.setIfInBounds i true) (C.act (putd o.dst (ρv d) ρr)) w' := by
          intro w' hi'
          refine ih (listed.setIfInBounds i true) (putd o.dst (ρv d) ρr) ρv s hs w' hsz' hcnt' ?_ ?_ hi'
          · refine ⟨hclosed', fun j oj hoj hj => ?_, fun j oj hoj he => ?_, st.bound, fun j oj hoj hj => ?_, st.next⟩
            · replace hj : (listed.setIfInBounds i true).getD j false = true := hj
              rw [hset] at hj
              by_cases e : j = i
              · subst e; exact hlo
              · rw [if_neg e] at hj; exact st.mem j oj hoj hj
            · show (listed.setIfInBounds i true).getD j false = true ↔ _
              rw [hset, if_neg (fun e => by subst e; rw [he] at heff'; cases heff')]
              exact st.effs j oj hoj he
            · replace hj : (listed.setIfInBounds i true).getD j false = false := hj
              rw [hset] at hj
              by_cases e : j = i
              · rw [if_pos e] at hj; cases hj
              · rw [if_neg e] at hj; exact st.rds j oj hoj hj
          · intro t ht
            rw [hd]
            show (if t = d then ρv d else ρr t) = ρv t
            by_cases e : t = d
            · rw [if_pos e, e]
            · rw [if_neg e]
              refine like t fun j oj hoj hLj hej => ?_
              by_cases e' : j = i
              · subst e'
                rw [ho] at hoj; cases hoj
                rw [hd]
                exact fun h => e (Option.some.inj h).symm
              · refine ht j oj hoj ?_ hej
                show (listed.setIfInBounds i true).getD j false = false
                rw [hset, if_neg e']; exact hLj
        unfold RdAt at hrd'
        cases hg : o.guard with
        | none =>
          rw [hg] at hrd'
          rw [if_pos (wanted_none hg _)]
          exact uponIn_of (K := fun v hs' => v = ρv d ∧ hs' = hs) (hrd'.ef ⟨rfl, rfl⟩) (fun v hs' h w' hi' => by obtain ⟨rfl, rfl⟩ := h; exact hgo w' hi') w hi
        | some z =>
          obtain ⟨j, want⟩ := z
          rw [hg] at hrd'
          obtain ⟨t, b, h1, h2, h3, h4⟩ := hrd'
          have hy : yielded l.toArray (C.act ρr).tmps j = b := yieldedO (by rw [nthOp_eq] at h1; simpa using h1) h2
          by_cases hb : b = some want
          · rw [if_pos (by simp [Region.wanted, hg, hy, hb])]
            exact uponIn_of (K := fun v hs' => v = ρv d ∧ hs' = hs) ((h3 hb).ef ⟨rfl, rfl⟩) (fun v hs' h w' hi' => by obtain ⟨rfl, rfl⟩ := h; exact hgo w' hi') w hi
          · rw [if_neg (by simp [Region.wanted, hg, hy, hb])]
            refine ⟨fun _ _ => trivial, ?_⟩
            rw [act_putd, ← h4 hb]
            exact hgo w hi
    exact hwop

/-- THE RULE. -/
theorem J.draw {id : Nat} {ρ : Env} {hs : List Assn} (lv : List Lv) (es : List Nat) (hm : P.follows .mixedOrders = true) (hok : okAll l lv es = true) (h : DRun P C l lv Q es 0 ρ hs) :
    J P C (.region id l.toArray true) Q ρ hs := by
  unfold okAll at hok
  simp only [Bool.and_eq_true] at hok
  obtain ⟨⟨h1, h2⟩, h3⟩ := hok
  have ok : ∀ i o, l[i]? = some o → OkOp l lv es i o := fun i o ho => okOp_spec ho (by have := okFrom_at h1 ho; rwa [Nat.zero_add] at this)
  have hes : ∀ k e, es[k]? = some e → (lvAt lv e).eff = true ∧ (lvAt lv e).lo = k := fun k e he => by have := okEff_at h2 he; rwa [Nat.zero_add] at this
  have hel : ∀ e ∈ es, e < l.length := fun e he => Nat.lt_of_succ_le (by have := List.all_eq_true.1 h3 e he; simpa [Nat.blt] using this)
  intro w hi
  refine wpIn_region_any hm ?_
  have hL : ∀ i, (Array.replicate l.toArray.size false).getD i false = false := fun i => by
    by_cases h : i < l.length <;> simp [h]
  obtain ⟨ρv, st, heq⟩ := st_of_run (P := P) (C := C) (Q := Q) (L := fun i => (Array.replicate l.toArray.size false).getD i false) (s := 0) ok
    (fun i o _ h => by simp only [hL] at h; cases h) (fun i o _ h => by simp only [hL] at h; cases h)
    (fun i o _ _ => by simp only [hL]; simp) (Nat.zero_le _) h
  refine draw_any ok hes hel _ _ ρ ρv 0 hs _ (by simp) ?_ st (fun t ht => (heq t ht).symm) hi.drew
  rw [show l.toArray.size = (List.range l.length).length by simp]
  exact List.length_filter_le _ _

/-! ### its steps -/
theorem DNew.rd {hs : List Assn} {i : Nat} {r : List Nat} {K : Env → Prop} {d : Nat} {op : Op} {ty : TypeId} {pos : String} {af : Array Edge} {v : Value} {m : List (Nat × Value)} {ρ : Env}
    (ho : nthOp l i = some ⟨some d, op, ty, pos, af, none⟩) (h : Rd P C hs (ext m ρ) ⟨some d, op, ty, pos, af, none⟩ v) (k : DNew P C l hs r (ext ((d, v) :: m) ρ) K) : DNew P C l hs (i :: r) (ext m ρ) K :=
  ⟨_, d, v, ho, rfl, h, k⟩
theorem DNew.rdG {hs : List Assn} {i j t : Nat} {b want : Bool} {r : List Nat} {K : Env → Prop} {d : Nat} {op : Op} {ty : TypeId} {pos : String} {af : Array Edge} {v : Value} {m : List (Nat × Value)} {ρ : Env}
    (ho : nthOp l i = some ⟨some d, op, ty, pos, af, some (j, want)⟩) (hj : (nthOp l j).bind (·.dst) = some t) (hv : Ev C.n (ext m ρ) (.tmp t) (.bool b)) (hb : b = want)
    (h : Rd P C hs (ext m ρ) ⟨some d, op, ty, pos, af, some (j, want)⟩ v) (k : DNew P C l hs r (ext ((d, v) :: m) ρ) K) : DNew P C l hs (i :: r) (ext m ρ) K :=
  ⟨_, d, v, ho, rfl, ⟨t, some b, hj, hv, fun _ => h, fun e => absurd (by rw [hb]) e⟩, k⟩
theorem DNew.skG {hs : List Assn} {i j t : Nat} {b want : Bool} {r : List Nat} {K : Env → Prop} {d : Nat} {op : Op} {ty : TypeId} {pos : String} {af : Array Edge} {m : List (Nat × Value)} {ρ : Env}
    (ho : nthOp l i = some ⟨some d, op, ty, pos, af, some (j, want)⟩) (hj : (nthOp l j).bind (·.dst) = some t) (hv : Ev C.n (ext m ρ) (.tmp t) (.bool b)) (hb : b = !want)
    (k : DNew P C l hs r (ext ((d, undef) :: m) ρ) K) : DNew P C l hs (i :: r) (ext m ρ) K :=
  ⟨_, d, undef, ho, rfl, ⟨t, some b, hj, hv, fun e => (by subst hb; cases want <;> cases e), fun _ => rfl⟩, k⟩
theorem DNew.nil {hs : List Assn} {ρ : Env} {K : Env → Prop} (h : K ρ) : DNew P C l hs [] ρ K := h
theorem DCar.nil {hs : List Assn} {ρ : Env} : DCar P C l hs ρ [] := trivial
theorem DCar.rd {hs : List Assn} {i : Nat} {r : List Nat} {d : Nat} {op : Op} {ty : TypeId} {pos : String} {af : Array Edge} {v : Value} {ρ : Env}
    (ho : nthOp l i = some ⟨some d, op, ty, pos, af, none⟩) (hv : ρ d = v) (h : Rd P C hs ρ ⟨some d, op, ty, pos, af, none⟩ v) (k : DCar P C l hs ρ r) : DCar P C l hs ρ (i :: r) :=
  ⟨⟨_, d, ho, rfl, by rw [hv]; exact h⟩, k⟩
theorem DCar.rdG {hs : List Assn} {i j t : Nat} {b want : Bool} {r : List Nat} {d : Nat} {op : Op} {ty : TypeId} {pos : String} {af : Array Edge} {v : Value} {ρ : Env}
    (ho : nthOp l i = some ⟨some d, op, ty, pos, af, some (j, want)⟩) (hj : (nthOp l j).bind (·.dst) = some t) (hx : Ev C.n ρ (.tmp t) (.bool b)) (hb : b = want) (hv : ρ d = v) (h : Rd P C hs ρ ⟨some d, op, ty, pos, af, some (j, want)⟩ v) (k : DCar P C l hs ρ r) : DCar P C l hs ρ (i :: r) :=
  ⟨⟨_, d, ho, rfl, by rw [hv]; exact ⟨t, some b, hj, hx, fun _ => h, fun e => absurd (by rw [hb]) e⟩⟩, k⟩
theorem DCar.skG {hs : List Assn} {i j t : Nat} {b want : Bool} {r : List Nat} {d : Nat} {op : Op} {ty : TypeId} {pos : String} {af : Array Edge} {ρ : Env}
    (ho : nthOp l i = some ⟨some d, op, ty, pos, af, some (j, want)⟩) (hj : (nthOp l j).bind (·.dst) = some t) (hx : Ev C.n ρ (.tmp t) (.bool b)) (hb : b = !want) (hv : ρ d = undef) (k : DCar P C l hs ρ r) : DCar P C l hs ρ (i :: r) :=
  ⟨⟨_, d, ho, rfl, by rw [hv]; exact ⟨t, some b, hj, hx, fun e => (by subst hb; cases want <;> cases e), fun _ => rfl⟩⟩, k⟩
theorem DRun.ef {hs : List Assn} {e s : Nat} {es : List Nat} {d : Nat} {op : Op} {ty : TypeId} {pos : String} {af : Array Edge} {m : List (Nat × Value)} {ρ : Env}
    (ho : nthOp l e = some ⟨some d, op, ty, pos, af, none⟩) (h : Ef P C hs (ext m ρ) ⟨some d, op, ty, pos, af, none⟩ fun v hs' => DRun P C l lv Q es s (ext ((d, v) :: m) ρ) hs') :
    ∃ o, nthOp l e = some o ∧ EfAt P C l hs (ext m ρ) o fun v hs' => DRun P C l lv Q es s (putd o.dst v (ext m ρ)) hs' := ⟨_, ho, h⟩
theorem DRun.ef0 {hs : List Assn} {e s : Nat} {es : List Nat} {op : Op} {ty : TypeId} {pos : String} {af : Array Edge} {ρ : Env}
    (ho : nthOp l e = some ⟨none, op, ty, pos, af, none⟩) (h : Ef P C hs ρ ⟨none, op, ty, pos, af, none⟩ fun _ hs' => DRun P C l lv Q es s ρ hs') :
    ∃ o, nthOp l e = some o ∧ EfAt P C l hs ρ o fun v hs' => DRun P C l lv Q es s (putd o.dst v ρ) hs' := ⟨_, ho, h⟩
theorem DRun.efG {hs : List Assn} {e s j t : Nat} {b want : Bool} {es : List Nat} {d : Nat} {op : Op} {ty : TypeId} {pos : String} {af : Array Edge} {m : List (Nat × Value)} {ρ : Env}
    (ho : nthOp l e = some ⟨some d, op, ty, pos, af, some (j, want)⟩) (hj : (nthOp l j).bind (·.dst) = some t) (hv : Ev C.n (ext m ρ) (.tmp t) (.bool b)) (hb : b = want)
    (h : Ef P C hs (ext m ρ) ⟨some d, op, ty, pos, af, some (j, want)⟩ fun v hs' => DRun P C l lv Q es s (ext ((d, v) :: m) ρ) hs') :
    ∃ o, nthOp l e = some o ∧ EfAt P C l hs (ext m ρ) o fun v hs' => DRun P C l lv Q es s (putd o.dst v (ext m ρ)) hs' := ⟨_, ho, t, some b, hj, hv, fun _ => h, fun e => absurd (by rw [hb]) e⟩
theorem DRun.skG {hs : List Assn} {e s j t : Nat} {b want : Bool} {es : List Nat} {d : Nat} {op : Op} {ty : TypeId} {pos : String} {af : Array Edge} {m : List (Nat × Value)} {ρ : Env}
    (ho : nthOp l e = some ⟨some d, op, ty, pos, af, some (j, want)⟩) (hj : (nthOp l j).bind (·.dst) = some t) (hv : Ev C.n (ext m ρ) (.tmp t) (.bool b)) (hb : b = !want)
    (h : DRun P C l lv Q es s (ext ((d, undef) :: m) ρ) hs) :
    ∃ o, nthOp l e = some o ∧ EfAt P C l hs (ext m ρ) o fun v hs' => DRun P C l lv Q es s (putd o.dst v (ext m ρ)) hs' := ⟨_, ho, t, some b, hj, hv, fun e => (by subst hb; cases want <;> cases e), fun _ => h⟩
theorem DNew.skU {hs : List Assn} {i j t : Nat} {want : Bool} {r : List Nat} {K : Env → Prop} {d : Nat} {op : Op} {ty : TypeId} {pos : String} {af : Array Edge} {m : List (Nat × Value)} {ρ : Env}
    (ho : nthOp l i = some ⟨some d, op, ty, pos, af, some (j, want)⟩) (hj : (nthOp l j).bind (·.dst) = some t) (hv : Ev C.n (ext m ρ) (.tmp t) undef)
    (k : DNew P C l hs r (ext ((d, undef) :: m) ρ) K) : DNew P C l hs (i :: r) (ext m ρ) K :=
  ⟨_, d, undef, ho, rfl, ⟨t, none, hj, hv, fun e => (by cases e), fun _ => rfl⟩, k⟩
theorem DCar.skU {hs : List Assn} {i j t : Nat} {want : Bool} {r : List Nat} {d : Nat} {op : Op} {ty : TypeId} {pos : String} {af : Array Edge} {ρ : Env}
    (ho : nthOp l i = some ⟨some d, op, ty, pos, af, some (j, want)⟩) (hj : (nthOp l j).bind (·.dst) = some t) (hx : Ev C.n ρ (.tmp t) undef) (hv : ρ d = undef) (k : DCar P C l hs ρ r) : DCar P C l hs ρ (i :: r) :=
  ⟨⟨_, d, ho, rfl, by rw [hv]; exact ⟨t, none, hj, hx, fun e => (by cases e), fun _ => rfl⟩⟩, k⟩
theorem DRun.skU {hs : List Assn} {e s j t : Nat} {want : Bool} {es : List Nat} {d : Nat} {op : Op} {ty : TypeId} {pos : String} {af : Array Edge} {m : List (Nat × Value)} {ρ : Env}
    (ho : nthOp l e = some ⟨some d, op, ty, pos, af, some (j, want)⟩) (hj : (nthOp l j).bind (·.dst) = some t) (hv : Ev C.n (ext m ρ) (.tmp t) undef)
    (h : DRun P C l lv Q es s (ext ((d, undef) :: m) ρ) hs) :
    ∃ o, nthOp l e = some o ∧ EfAt P C l hs (ext m ρ) o fun v hs' => DRun P C l lv Q es s (putd o.dst v (ext m ρ)) hs' := ⟨_, ho, t, none, hj, hv, fun e => (by cases e), fun _ => h⟩
end

end Go.Proofs.Ytfnoaohbjlnkgaa
