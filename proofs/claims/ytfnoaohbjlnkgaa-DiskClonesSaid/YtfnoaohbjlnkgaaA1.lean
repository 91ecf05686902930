/-
  The judgement J over canonical frames, its rules for code, regions and operations in general. No program in it.
-/
import Derived.Test.YtfnoaohbjlnkgaaA0
namespace Go.Proofs.Ytfnoaohbjlnkgaa

/-! ### frames -/
abbrev Env := Nat → Value
def ext : List (Nat × Value) → Env → Env
  | [], ρ => ρ
  | (k, v) :: l, ρ => fun i => if i = k then v else ext l ρ i

def act (n : Nat) (ds : List Deferred) (ρ : Env) : Act := { tmps := Array.ofFn fun i : Fin n => ρ i.val, defers := ds }

theorem act_eval (n : Nat) (ds : List Deferred) (ρ : Env) (t : Nat) : (act n ds ρ).eval (.tmp t) = if t < n then ρ t else undef := by
  simp only [Act.eval, act, Array.getD_eq_getD_getElem?, Array.getElem?_ofFn]
  split <;> rfl

theorem act_put (n : Nat) (ds : List Deferred) (ρ : Env) (d : Nat) (v : Value) : (act n ds ρ).put (some d) v = act n ds (fun i => if i = d then v else ρ i) := by
  unfold act Act.put
  simp only [Act.mk.injEq, and_true]
  apply Array.ext
  · simp
  · intro i h1 h2
    simp only [Array.size_ofFn] at h2
    rw [Array.getElem_setIfInBounds]
    · simp only [Array.getElem_ofFn]
      by_cases h : d = i
      · simp [h]
      · rw [if_neg h, if_neg (fun e => h e.symm)]; exact Array.getElem_ofFn _
    · simpa using h2

theorem act_put_none (n : Nat) (ds : List Deferred) (ρ : Env) (v : Value) : (act n ds ρ).put none v = act n ds ρ := rfl

theorem ext_cons (k : Nat) (v : Value) (l : List (Nat × Value)) (ρ : Env) : ext ((k, v) :: l) ρ = fun i => if i = k then v else ext l ρ i := rfl

/-- Slots of a frame hold values. -/
def Has : List (Nat × Value) → Env → Prop
  | [], _ => True
  | (k, v) :: l, ρ => ρ k = v ∧ Has l ρ

theorem ext_has {l : List (Nat × Value)} {ρ : Env} (h : Has l ρ) : ext l ρ = ρ := by
  induction l with
  | nil => rfl
  | cons x l ih =>
    obtain ⟨k, v⟩ := x
    funext i
    rw [ext_cons, ih h.2]
    show (if i = k then v else ρ i) = ρ i
    by_cases e : i = k
    · rw [if_pos e, e, h.1]
    · rw [if_neg e]

structure Cx where
  n : Nat
  r : Option Nat
  ds : List Deferred
  h0 : Frag
  w0 : World

abbrev Cx.act (C : Cx) (ρ : Env) : Act := Ytfnoaohbjlnkgaa.act C.n C.ds ρ
abbrev Cx.inv (C : Cx) (hs : List Assn) (w : World) : Prop := Inv C.h0 C.w0 hs w

def wideR (r : Option Nat) : Fence := { fn := fun _ => True, depth := none, alive := false, round := r }

theorem callsIn_wideR {r : Option Nat} {n : Nat} {P : Program} {f : FuncId} {args : Array Value} {w : World} {R : Ending → World → Prop} : CallsIn (wideR r) n P f args w R ↔ Calls P f args w R :=
  callsIn_wide (n := n)

/-! ### operands -/
def Ev (n : Nat) (ρ : Env) (x : Operand) (v : Value) : Prop := ∀ ds, (act n ds ρ).eval x = v
theorem Ev.c {n ρ v} : Ev n ρ (.const v) v := fun _ => rfl
theorem Ev.f {n ρ f} : Ev n ρ (.func f) (.func (.func f) #[] #[]) := fun _ => rfl
theorem Ev.g {n ρ g} : Ev n ρ (.global g) (.pointer (some ⟨g, 0, none⟩)) := fun _ => rfl
theorem Ev.t {n ρ t v} (ht : Nat.blt t n = true) (h : ρ t = v) : Ev n ρ (.tmp t) v := fun ds => by
  rw [act_eval, if_pos (Nat.lt_of_succ_le (by simpa [Nat.blt] using ht)), h]

/-- Operands one by one. -/
inductive EvL (n : Nat) (ρ : Env) : List Operand → List Value → Prop
  | nil : EvL n ρ [] []
  | cons {x v xs vs} : Ev n ρ x v → EvL n ρ xs vs → EvL n ρ (x :: xs) (v :: vs)

theorem EvL.map {n ρ} {xs : List Operand} {vs : List Value} (h : EvL n ρ xs vs) (ds) : xs.toArray.map (act n ds ρ).eval = vs.toArray := by
  induction h with
  | nil => simp
  | cons h1 _ ih =>
    simp only [List.map_toArray] at ih ⊢
    have := h1 ds
    simp only [List.map_cons, this]
    simpa using ih

/-! ### the judgements -/
def J (P : Program) (C : Cx) (c : Code) (Q : Exit → Act → World → Prop) (ρ : Env) (hs : List Assn) : Prop :=
  ∀ w, C.inv hs w → c.wpIn (wideR C.r) 0 P Q (C.act ρ) w

def At (C : Cx) (Q : Exit → Act → World → Prop) (e : Exit) (ρ : Env) (hs : List Assn) : Prop := ∀ w, C.inv hs w → Q e (C.act ρ) w

def JL (P : Program) (C : Cx) (ops : Array Oper) (Q : Exit → Act → World → Prop) (rest : List Oper) (ρ : Env) (hs : List Assn) : Prop :=
  ∀ w, C.inv hs w → wpListIn (wideR C.r) 0 P ops Q rest (C.act ρ) w

/-- The operation reads: its value, at every world of the state. -/
def Rd (P : Program) (C : Cx) (hs : List Assn) (ρ : Env) (o : Oper) (v : Value) : Prop :=
  ∀ w, C.inv hs w → (o.semAt C.r (C.act ρ).eval).run P w = .ok (.value v) w

/-- The operation acts: it ends in a value and a state that K takes. -/
def Ef (P : Program) (C : Cx) (hs : List Assn) (ρ : Env) (o : Oper) (K : Value → List Assn → Prop) : Prop :=
  ∀ w, C.inv hs w →
    (∃ v hs' w', ((o.semAt C.r (C.act ρ).eval).run P w = .ok (.value v) w' ∨ ((o.semAt C.r (C.act ρ).eval).run P w = .ok .skip w' ∧ v = undef)) ∧ C.inv hs' w' ∧ K v hs') ∨
    (∃ f args w1, (o.semAt C.r (C.act ρ).eval).run P w = .ok (.enter f args) w1 ∧ Calls P f args w1 fun e w' => ∃ v hs', e = .returned v ∧ C.inv hs' w' ∧ K v hs') ∨
    (∃ l f tmps assign body w1, (o.semAt C.r (C.act ρ).eval).run P w = .ok (.round l f tmps assign body) w1 ∧
      RoundIn (wideR C.r) 0 P l f tmps assign body w1 fun e w' => ∃ v hs', e = .returned v ∧ C.inv hs' w' ∧ K v hs')

theorem Ef.mono {P C hs ρ o} {K K' : Value → List Assn → Prop} (h : Ef P C hs ρ o K) (hk : ∀ v hs', K v hs' → K' v hs') : Ef P C hs ρ o K' := by
  intro w hi
  rcases h w hi with ⟨v, hs', w', a, b, c⟩ | ⟨f, args, w1, a, b⟩ | ⟨l, f, tmps, as, bo, w1, a, b⟩
  · exact .inl ⟨v, hs', w', a, b, hk _ _ c⟩
  · exact .inr (.inl ⟨f, args, w1, a, b.mono fun e w' ⟨v, hs', x, y, z⟩ => ⟨v, hs', x, y, hk _ _ z⟩⟩)
  · exact .inr (.inr ⟨l, f, tmps, as, bo, w1, a, b.mono fun e w' ⟨v, hs', x, y, z⟩ => ⟨v, hs', x, y, hk _ _ z⟩⟩)

theorem Rd.of {P C hs ρ} {o : Oper} {v} (hnd : ∀ c, o.op ≠ .defer c) (h : ∀ w, C.inv hs w → (execOp (C.act ρ).eval o).run P w = .ok (.value v) w) : Rd P C hs ρ o v := fun w hi => by
  rw [Oper.semAt_eq _ _ _ hnd]; exact h w hi

def putd (d : Option Tmp) (v : Value) (ρ : Env) : Env := match d with | some d => ext [(d, v)] ρ | none => ρ

theorem act_putd (n ds d v ρ) : (act n ds ρ).put d v = act n ds (putd d v ρ) := by
  cases d with
  | none => rfl
  | some d => rw [act_put]; rfl

theorem putd_ext (d v l ρ) : putd (some d) v (ext l ρ) = ext ((d, v) :: l) ρ := rfl

theorem uponIn_of {P : Program} {C : Cx} {o : Oper} {ρ : Env} {hs : List Assn} {K : Value → List Assn → Prop} {next : Act → World → Prop} {Q : Exit → Act → World → Prop}
    (h : Ef P C hs ρ o K) (hk : ∀ v hs', K v hs' → ∀ w, C.inv hs' w → next (C.act (putd o.dst v ρ)) w) (w : World) (hi : C.inv hs w) : o.wpIn (wideR C.r) 0 P (C.act ρ) w next Q := by
  refine ⟨fun _ _ => trivial, ?_⟩
  have hnext : ∀ v hs' w', K v hs' → C.inv hs' w' → next ((C.act ρ).put o.dst v) w' := fun v hs' w' a b => by
    have := hk v hs' a w' b
    show next ((act C.n C.ds ρ).put o.dst v) w'
    rw [act_putd]
    exact this
  rcases h w hi with ⟨v, hs', w', a, b, c⟩ | ⟨f, args, w1, a, b⟩ | ⟨l, f, tmps, as, bo, w1, a, b⟩
  · rcases a with a | ⟨a, rfl⟩
    · show o.uponIn (wideR C.r) 0 P (C.act ρ) next Q ((o.semAt C.r (C.act ρ).eval).run P w)
      rw [a]; exact hnext v hs' w' c b
    · show o.uponIn (wideR C.r) 0 P (C.act ρ) next Q ((o.semAt C.r (C.act ρ).eval).run P w)
      rw [a]; exact hnext undef hs' w' c b
  · show o.uponIn (wideR C.r) 0 P (C.act ρ) next Q ((o.semAt C.r (C.act ρ).eval).run P w)
    rw [a]
    refine ⟨fun hd => by simp [wideR] at hd, callsIn_wideR.2 (b.mono ?_)⟩
    rintro e w' ⟨v, hs', rfl, y, z⟩
    exact hnext v hs' w' z y
  · show o.uponIn (wideR C.r) 0 P (C.act ρ) next Q ((o.semAt C.r (C.act ρ).eval).run P w)
    rw [a]
    refine ⟨fun hd => by simp [wideR] at hd, b.mono ?_⟩
    rintro e w' ⟨v, hs', rfl, y, z⟩
    exact hnext v hs' w' z y

theorem Rd.ef {P C hs ρ o v K} (h : Rd P C hs ρ o v) (k : K v hs) : Ef P C hs ρ o K := fun w hi => .inl ⟨v, hs, w, .inl (h w hi), hi, k⟩

/-! ### regions in the text's order -/
section
variable {P : Program} {C : Cx} {ops : Array Oper} {Q : Exit → Act → World → Prop} {rest : List Oper} {l : List (Nat × Value)} {ρ : Env} {hs : List Assn}
  {op : Op} {ty : TypeId} {pos : String} {af : Array Edge} {d : Nat}

theorem JL.nil (h : At C Q .normal ρ hs) : JL P C ops Q [] ρ hs := h

theorem JL.step {o : Oper} (hw : ∀ w, C.inv hs w → Region.wanted o (yielded ops (C.act ρ).tmps) = true)
    (h : Ef P C hs ρ o fun v hs' => JL P C ops Q rest (putd o.dst v ρ) hs') : JL P C ops Q (o :: rest) ρ hs := fun w hi => by
  unfold wpListIn
  rw [if_pos (hw w hi)]
  exact uponIn_of h (fun v hs' k w' hi' => k w' hi') w hi

theorem wanted_none {o : Oper} (hg : o.guard = none) (y : Nat → Option Bool) : Region.wanted o y = true := by simp [Region.wanted, hg]

theorem JL.rd {v : Value} (h : Rd P C hs (ext l ρ) ⟨some d, op, ty, pos, af, none⟩ v) (k : JL P C ops Q rest (ext ((d, v) :: l) ρ) hs) :
    JL P C ops Q (⟨some d, op, ty, pos, af, none⟩ :: rest) (ext l ρ) hs :=
  JL.step (fun _ _ => wanted_none rfl _) (h.ef k)

theorem JL.ef (h : Ef P C hs (ext l ρ) ⟨some d, op, ty, pos, af, none⟩ fun v hs' => JL P C ops Q rest (ext ((d, v) :: l) ρ) hs') :
    JL P C ops Q (⟨some d, op, ty, pos, af, none⟩ :: rest) (ext l ρ) hs :=
  JL.step (fun _ _ => wanted_none rfl _) h

theorem JL.ef0 (h : Ef P C hs ρ ⟨none, op, ty, pos, af, none⟩ fun _ hs' => JL P C ops Q rest ρ hs') :
    JL P C ops Q (⟨none, op, ty, pos, af, none⟩ :: rest) ρ hs :=
  JL.step (fun _ _ => wanted_none rfl _) h

theorem yielded_act {j t : Nat} {b : Bool} (hj : (ops[j]?).bind (·.dst) = some t) (hv : Ev C.n ρ (.tmp t) (.bool b)) : yielded ops (C.act ρ).tmps j = some b := by
  have h1 := hv C.ds
  rw [act_eval] at h1
  split at h1
  · rename_i hlt
    unfold yielded
    rw [hj]
    simp [Cx.act, act, hlt, h1]
  · cases h1

/-- What a guard's operation has left: a boolean, or nothing, when it was itself left out. -/
def EvO (n : Nat) (ρ : Env) (t : Nat) : Option Bool → Prop
  | some b => Ev n ρ (.tmp t) (.bool b)
  | none => Ev n ρ (.tmp t) undef
theorem yieldedO {j t : Nat} {x : Option Bool} (hj : (ops[j]?).bind (·.dst) = some t) (hv : EvO C.n ρ t x) : yielded ops (C.act ρ).tmps j = x := by
  cases x with
  | some b => exact yielded_act hj hv
  | none =>
    have h1 := hv C.ds
    rw [act_eval] at h1
    unfold yielded
    rw [hj]
    by_cases hlt : t < C.n
    · rw [if_pos hlt] at h1
      simp [Cx.act, act, hlt, h1, undef]
    · simp [Cx.act, act, hlt]
theorem JL.skU {j t : Nat} {want : Bool} (hj : (ops[j]?).bind (·.dst) = some t) (hv : Ev C.n (ext l ρ) (.tmp t) undef)
    (k : JL P C ops Q rest (ext ((d, undef) :: l) ρ) hs) :
    JL P C ops Q (⟨some d, op, ty, pos, af, some (j, want)⟩ :: rest) (ext l ρ) hs := fun w hi => by
  unfold wpListIn
  have : Region.wanted ⟨some d, op, ty, pos, af, some (j, want)⟩ (yielded ops (C.act (ext l ρ)).tmps) = false := by
    simp [Region.wanted, yieldedO (x := none) hj hv]
  rw [if_neg (by rw [this]; simp)]
  refine ⟨fun _ _ => trivial, ?_⟩
  rw [act_putd]
  exact k w hi

theorem JL.rdG {v : Value} {j t : Nat} {b want : Bool} (hj : (ops[j]?).bind (·.dst) = some t) (hv : Ev C.n (ext l ρ) (.tmp t) (.bool b)) (hb : b = want)
    (h : Rd P C hs (ext l ρ) ⟨some d, op, ty, pos, af, some (j, want)⟩ v) (k : JL P C ops Q rest (ext ((d, v) :: l) ρ) hs) :
    JL P C ops Q (⟨some d, op, ty, pos, af, some (j, want)⟩ :: rest) (ext l ρ) hs :=
  JL.step (fun _ _ => by simp [Region.wanted, yielded_act hj hv, hb]) (h.ef k)

theorem JL.efG {j t : Nat} {b want : Bool} (hj : (ops[j]?).bind (·.dst) = some t) (hv : Ev C.n (ext l ρ) (.tmp t) (.bool b)) (hb : b = want)
    (h : Ef P C hs (ext l ρ) ⟨some d, op, ty, pos, af, some (j, want)⟩ fun v hs' => JL P C ops Q rest (ext ((d, v) :: l) ρ) hs') :
    JL P C ops Q (⟨some d, op, ty, pos, af, some (j, want)⟩ :: rest) (ext l ρ) hs :=
  JL.step (fun _ _ => by simp [Region.wanted, yielded_act hj hv, hb]) h

theorem JL.skG {j t : Nat} {b want : Bool} (hj : (ops[j]?).bind (·.dst) = some t) (hv : Ev C.n (ext l ρ) (.tmp t) (.bool b)) (hb : b = !want)
    (k : JL P C ops Q rest (ext ((d, undef) :: l) ρ) hs) :
    JL P C ops Q (⟨some d, op, ty, pos, af, some (j, want)⟩ :: rest) (ext l ρ) hs := fun w hi => by
  unfold wpListIn
  have : Region.wanted ⟨some d, op, ty, pos, af, some (j, want)⟩ (yielded ops (C.act (ext l ρ)).tmps) = false := by
    simp only [Region.wanted, yielded_act hj hv, hb]
    cases want <;> rfl
  rw [if_neg (by rw [this]; simp)]
  refine ⟨fun _ _ => trivial, ?_⟩
  rw [act_putd]
  exact k w hi

/-! ### code -/
def Then (P : Program) (C : Cx) (y : Code) (Q : Exit → Act → World → Prop) : Exit → Act → World → Prop := Exit.then (y.wpIn (wideR C.r) 0 P Q) Q

theorem J.seq {x y : Code} (h : J P C x (Then P C y Q) ρ hs) : J P C (.seq x y) Q ρ hs := fun w hi => wpIn_seq (h w hi)
theorem At.next {n n' : Nat} {r : Option Nat} {ds ds' : List Deferred} {h0 h0' : Frag} {w0 w0' : World} {y : Code} (h : J P ⟨n, r, ds, h0, w0⟩ y Q ρ hs) : At ⟨n, r, ds, h0, w0⟩ (Then P ⟨n', r, ds', h0', w0'⟩ y Q) .normal ρ hs := h
theorem At.nextR {C' : Cx} {y : Code} (h : At C Q .ret ρ hs) : At C (Then P C' y Q) .ret ρ hs := h
theorem At.nextX {C' : Cx} {y : Code} {i : Nat} (h : At C Q (.exit i) ρ hs) : At C (Then P C' y Q) (.exit i) ρ hs := h
theorem J.skip (h : At C Q .normal ρ hs) : J P C .skip Q ρ hs := fun w hi => wpIn_skip (h w hi)
theorem J.ret (h : At C Q .ret ρ hs) : J P C .ret Q ρ hs := fun w hi => wpIn_ret (h w hi)
theorem J.exit {i : Nat} (h : At C Q (.exit i) ρ hs) : J P C (.exit i) Q ρ hs := fun w hi => wpIn_exit (h w hi)
theorem J.block {i : Nat} {c : Code} (h : J P C c (Exit.inBlock i Q) ρ hs) : J P C (.block i c) Q ρ hs := fun w hi => wpIn_block (h w hi)
theorem At.blkN {i : Nat} (h : At C Q .normal ρ hs) : At C (Exit.inBlock i Q) .normal ρ hs := h
theorem At.blkR {i : Nat} (h : At C Q .ret ρ hs) : At C (Exit.inBlock i Q) .ret ρ hs := h
theorem At.blkX {i : Nat} (h : At C Q .normal ρ hs) : At C (Exit.inBlock i Q) (.exit i) ρ hs := fun w hi => by
  show if i = i then _ else _
  rw [if_pos rfl]; exact h w hi
theorem At.blkY {i k : Nat} (hk : Nat.beq k i = false) (h : At C Q (.exit k) ρ hs) : At C (Exit.inBlock i Q) (.exit k) ρ hs := fun w hi => by
  show if k = i then _ else _
  rw [if_neg (fun e => by subst e; simp at hk)]; exact h w hi
theorem J.region {id : Nat} {os : List Oper} (h : JL P C os.toArray Q os ρ hs) : J P C (.region id os.toArray false) Q ρ hs := fun w hi => wpIn_region_lit (h w hi)

theorem J.cond {c : Operand} {x y : Code} {b : Bool} (hv : Ev C.n ρ c (.bool b)) (ht : b = true → J P C x Q ρ hs) (hf : b = false → J P C y Q ρ hs) :
    J P C (.cond c x y) Q ρ hs := fun w hi => wpIn_cond_split (hv _) (fun e => ht e w hi) (fun e => hf e w hi)
theorem J.condT {c : Operand} {x y : Code} (hv : Ev C.n ρ c (.bool true)) (h : J P C x Q ρ hs) : J P C (.cond c x y) Q ρ hs := fun w hi => wpIn_cond_true (hv _) (h w hi)
theorem J.condF {c : Operand} {x y : Code} (hv : Ev C.n ρ c (.bool false)) (h : J P C y Q ρ hs) : J P C (.cond c x y) Q ρ hs := fun w hi => wpIn_cond_false (hv _) (h w hi)
theorem J.condD {c : Operand} {x y : Code} {p : Prop} [Decidable p] (hv : Ev C.n ρ c (.bool (decide p))) (ht : p → J P C x Q ρ hs) (hf : ¬ p → J P C y Q ρ hs) :
    J P C (.cond c x y) Q ρ hs := J.cond hv (fun e => ht (of_decide_eq_true e)) (fun e => hf (of_decide_eq_false e))

/-- A state may be changed to one that says the same or less. -/
theorem J.weak {c : Code} {hs' : List Assn} (f : ∀ h, Stars hs h → Stars hs' h) (h : J P C c Q ρ hs') : J P C c Q ρ hs := fun w hi => h w (hi.mono f)
theorem JL.weak {hs' : List Assn} (f : ∀ h, Stars hs h → Stars hs' h) (h : JL P C ops Q rest ρ hs') : JL P C ops Q rest ρ hs := fun w hi => h w (hi.mono f)
theorem At.weak {e : Exit} {hs' : List Assn} (f : ∀ h, Stars hs h → Stars hs' h) (h : At C Q e ρ hs') : At C Q e ρ hs := fun w hi => h w (hi.mono f)
theorem J.perm {c : Code} {hs' : List Assn} (p : hs.Perm hs') (h : J P C c Q ρ hs') : J P C c Q ρ hs := h.weak fun _ => Stars.perm p

/-- Forget all slots but these. -/
theorem J.live {c : Code} {K : List (Nat × Value)} (hl : Has K ρ) (h : ∀ ρ', J P C c Q (ext K ρ') hs) : J P C c Q ρ hs := by
  have := h ρ
  rwa [ext_has hl] at this

theorem At.live {e : Exit} {K : List (Nat × Value)} (hl : Has K ρ) (h : ∀ ρ', At C Q e (ext K ρ') hs) : At C Q e ρ hs := by
  have := h ρ
  rwa [ext_has hl] at this

/-! ### loops -/
theorem wpIn_loop_ix {F : Fence} {n : Nat} {P : Program} {Q : Exit → Act → World → Prop} {a : Act} {w : World} {c : Code} {I : Nat → Act → World → Prop} {m : Nat} (h₀ : I m a w)
    (round : ∀ m a w, I m a w → c.wpIn F n P (Exit.then (fun a' w' => ∃ m', m' < m ∧ I m' a' w') Q) a w) : (Code.loop c).wpIn F n P Q a w := by
  intro b k cs hro hb hr
  have key : ∀ j a w, I j a w →
      ∃ e a' w', Q e a' w' ∧ ArrivesIn (Machine.fenced P F) P (lone (b.atR a (.code c :: .inLoop c :: k)) cs w) b k cs e a' w' := by
    intro j
    induction j using Nat.strongRecOn with
    | _ j ih =>
      intro a w hI
      obtain ⟨e, a₁, w₁, hq, harr⟩ := round j a w hI b (.inLoop c :: k) cs hro hb hr
      cases e with
      | normal =>
        obtain ⟨m', hlt, hI₁⟩ := hq
        obtain ⟨e₂, a₂, w₂, hq₂, harr₂⟩ := ih m' hlt a₁ w₁ hI₁
        exact ⟨e₂, a₂, w₂, hq₂, .of_steps (StepsIn.trans harr (.one (fenced_calm hb hr rfl) stepR_inLoop)) harr₂⟩
      | exit id => exact ⟨_, a₁, w₁, hq, .pass (x := .inLoop c) rfl (fun _ _ => .inl (by simp)) harr⟩
      | goto l => exact ⟨_, a₁, w₁, hq, .pass (x := .inLoop c) rfl (fun _ _ => .inl (by simp)) harr⟩
      | ret => exact ⟨_, a₁, w₁, hq, .pass (x := .inLoop c) rfl (fun _ _ => .inl (by simp)) harr⟩
      | panic ch => exact ⟨_, a₁, w₁, hq, .pass (x := .inLoop c) rfl (fun _ _ => .inl (by simp)) harr⟩
      | outgrown => exact ⟨_, a₁, w₁, hq, .pass (x := .inLoop c) rfl (fun _ _ => .inl (by simp)) harr⟩
  obtain ⟨e, a', w', hq, harr⟩ := key m a w h₀
  exact ⟨e, a', w', hq, .of_steps (.one (fenced_calm hb hr rfl) stepR_loop) harr⟩

def LoopQ (C : Cx) {X : Type} (S : X → List (Nat × Value)) (K : List (Nat × Value)) (H : X → List Assn) (p : X → Prop) (μ : X → Nat) (m : Nat) (Q : Exit → Act → World → Prop) : Exit → Act → World → Prop :=
  Exit.then (fun a w => ∃ x ρ, p x ∧ μ x < m ∧ a = C.act (ext (S x ++ K) ρ) ∧ C.inv (H x) w) Q

theorem J.loop {X : Type} (S : X → List (Nat × Value)) {K : List (Nat × Value)} (H : X → List Assn) (p : X → Prop) (μ : X → Nat) (x0 : X) {c : Code}
    (h0 : p x0) (hS : Has (S x0) ρ) (hK : Has K ρ) (hH : ∀ h, Stars hs h → Stars (H x0) h)
    (round : ∀ x ρ', p x → J P C c (LoopQ C S K H p μ (μ x) Q) (ext (S x ++ K) ρ') (H x)) : J P C (.loop c) Q ρ hs := by
  intro w hi
  have hap : ∀ (l l' : List (Nat × Value)) (ρ : Env), Has l ρ → Has l' ρ → Has (l ++ l') ρ := by
    intro l l' ρ
    induction l with
    | nil => exact fun _ h => h
    | cons a l ih => exact fun h h' => ⟨h.1, ih h.2 h'⟩
  refine wpIn_loop_ix (I := fun m a w => ∃ x ρ, p x ∧ μ x = m ∧ a = C.act (ext (S x ++ K) ρ) ∧ C.inv (H x) w) (m := μ x0) ⟨x0, ρ, h0, rfl, by rw [ext_has (hap _ _ _ hS hK)], hi.mono hH⟩ ?_
  rintro m a w' ⟨x, ρ', hp, rfl, rfl, hi'⟩
  refine wpIn_mono (round x ρ' hp w' hi') ?_
  intro e a' w'' hq
  cases e with
  | normal =>
    obtain ⟨x', ρ'', hp', hlt, ha', hi''⟩ := hq
    exact ⟨μ x', hlt, x', ρ'', hp', rfl, ha', hi''⟩
  | ret => exact hq
  | exit i => exact hq
  | goto l => exact hq
  | panic c => exact hq
  | outgrown => exact hq

theorem At.again {X : Type} {S : X → List (Nat × Value)} {K : List (Nat × Value)} {H : X → List Assn} {p : X → Prop} {μ : X → Nat} {m : Nat} (x : X) (hp : p x) (hm : μ x < m)
    (hS : Has (S x) ρ) (hK : Has K ρ) (hH : ∀ h, Stars hs h → Stars (H x) h) : At C (LoopQ C S K H p μ m Q) .normal ρ hs := fun w hi => by
  have hap : ∀ (l l' : List (Nat × Value)) (ρ : Env), Has l ρ → Has l' ρ → Has (l ++ l') ρ := by
    intro l l' ρ
    induction l with
    | nil => exact fun _ h => h
    | cons a l ih => exact fun h h' => ⟨h.1, ih h.2 h'⟩
  exact ⟨x, ρ, hp, hm, by rw [ext_has (hap _ _ _ hS hK)], hi.mono hH⟩
theorem At.loopR {X : Type} {S : X → List (Nat × Value)} {K : List (Nat × Value)} {H : X → List Assn} {p : X → Prop} {μ : X → Nat} {m : Nat} (h : At C Q .ret ρ hs) : At C (LoopQ C S K H p μ m Q) .ret ρ hs := h
theorem At.loopX {X : Type} {S : X → List (Nat × Value)} {K : List (Nat × Value)} {H : X → List Assn} {p : X → Prop} {μ : X → Nat} {m : Nat} {i : Nat} (h : At C Q (.exit i) ρ hs) : At C (LoopQ C S K H p μ m Q) (.exit i) ρ hs := h
end

end Go.Proofs.Ytfnoaohbjlnkgaa
