/-
  Parts of the proof: A0, A1, A2, A3, A4, A5, A6, A7, A8, A9, B1, B2, B3, B4, B5, B6, B7, B8.
-/
import Derived.OrdersIn
import Derived.TacticsIn
import Derived.RangeFuncIn
import Derived.RangeFuncLeaves
import Derived.RangeFuncCalls
import Derived.Below
import Derived.WalkKit
import Derived.Laws.IdiomStrings
import Derived.Laws.Externs
import Derived.Maps.RangeRun
import Derived.Lib.AppendStr
import Derived.Lib.AppendZeros
namespace Go.Proofs.YtbhladkbnleeoaaGreat

/-! ### fragments of the heap: `true` owned, `false` read only -/
abbrev Frag := Nat → Option (Bool × Obj)
abbrev Assn := Frag → Prop

def Own (h : Frag) (b : Nat) : Prop := ∃ o, h b = some (true, o)
def Cmp (h g : Frag) : Prop := ∀ b, h b = none ∨ g b = none ∨ (h b = g b ∧ ∃ o, h b = some (false, o))
def jn (h g : Frag) : Frag := fun b => (h b).or (g b)
def Sub (h : Frag) (w : World) : Prop := ∀ b f o, h b = some (f, o) → w.heap[b]? = some o

structure Fr (h : Frag) (w : World) (h' : Frag) (w' : World) : Prop where
  os : w'.os = w.os
  tape : w'.tape = w.tape
  output : w'.output = w.output
  size : w.heap.size ≤ w'.heap.size
  keep : ∀ b, b < w.heap.size → ¬ Own h b → w'.heap[b]? = w.heap[b]?
  own : ∀ b, Own h' b → Own h b ∨ w.heap.size ≤ b
  dom : ∀ b, h' b ≠ none → h b ≠ none ∨ w.heap.size ≤ b

theorem Fr.refl (h : Frag) (w : World) : Fr h w h w := ⟨rfl, rfl, rfl, Nat.le_refl _, fun _ _ _ => rfl, fun _ h => .inl h, fun _ h => .inl h⟩

theorem Fr.trans {h w h1 w1 h2 w2} (a : Fr h w h1 w1) (b : Fr h1 w1 h2 w2) : Fr h w h2 w2 where
  os := b.os.trans a.os
  tape := b.tape.trans a.tape
  output := b.output.trans a.output
  size := Nat.le_trans a.size b.size
  keep := fun k hk hn => by
    have h1 : ¬ Own h1 k := fun ho => by
      rcases a.own k ho with h | h
      · exact hn h
      · omega
    exact (b.keep k (Nat.lt_of_lt_of_le hk a.size) h1).trans (a.keep k hk hn)
  own := fun k hk => by
    rcases b.own k hk with h | h
    · exact a.own k h
    · exact .inr (Nat.le_trans a.size h)
  dom := fun k hk => by
    rcases b.dom k hk with h | h
    · exact a.dom k h
    · exact .inr (Nat.le_trans a.size h)

theorem Cmp.symm {h g : Frag} (c : Cmp h g) : Cmp g h := fun b => by
  rcases c b with x | x | ⟨x, o, y⟩
  · exact .inr (.inl x)
  · exact .inl x
  · exact .inr (.inr ⟨x.symm, o, x ▸ y⟩)

theorem jn_comm {h g : Frag} (c : Cmp h g) : jn h g = jn g h := by
  funext b
  unfold jn
  rcases c b with x | x | ⟨x, o, y⟩
  · rw [x]; cases g b <;> rfl
  · rw [x]; cases h b <;> rfl
  · rw [← x]

theorem jn_assoc (h g k : Frag) : jn (jn h g) k = jn h (jn g k) := by
  funext b; unfold jn; cases h b <;> rfl

theorem Cmp.jn_left {h g k : Frag} (c : Cmp (jn h g) k) (hg : Cmp h g) : Cmp h k ∧ Cmp g k := by
  constructor
  · intro b
    rcases c b with x | x | ⟨x, o, y⟩
    · left; unfold jn at x; revert x; cases h b <;> simp
    · exact .inr (.inl x)
    · unfold jn at x y
      cases hh : h b with
      | none => exact .inl rfl
      | some z => rw [hh] at x y; exact .inr (.inr ⟨x, o, y⟩)
  · intro b
    rcases c b with x | x | ⟨x, o, y⟩
    · left; unfold jn at x; revert x; cases h b <;> simp
    · exact .inr (.inl x)
    · unfold jn at x y
      cases hh : h b with
      | none => rw [hh] at x y; exact .inr (.inr ⟨x, o, y⟩)
      | some z =>
        rw [hh] at x y
        rcases hg b with u | u | ⟨u, p, v⟩
        · rw [hh] at u; cases u
        · exact .inl u
        · rw [hh] at u v
          exact .inr (.inr ⟨by rw [← u]; exact x, p, by rw [← u]; exact v⟩)

theorem Cmp.jn_mk {h g k : Frag} (a : Cmp h k) (b : Cmp g k) : Cmp (jn h g) k := by
  intro x
  unfold jn
  cases hh : h x with
  | none => exact b x
  | some z =>
    rcases a x with u | u | ⟨u, o, v⟩
    · rw [hh] at u; cases u
    · exact .inr (.inl u)
    · exact .inr (.inr ⟨by rw [hh] at u; exact u, o, by rw [hh] at v; exact v⟩)

theorem Sub.left {h g : Frag} {w : World} (s : Sub (jn h g) w) : Sub h w := fun b f o e => s b f o (by unfold jn; rw [e]; rfl)
theorem Sub.right {h g : Frag} {w : World} (c : Cmp h g) (s : Sub (jn h g) w) : Sub g w := Sub.left (jn_comm c ▸ s)
theorem Sub.mk {h g : Frag} {w : World} (a : Sub h w) (b : Sub g w) : Sub (jn h g) w := fun x f o e => by
  unfold jn at e
  cases hh : h x with
  | none => rw [hh] at e; exact b x f o e
  | some z => rw [hh] at e; simp at e; exact a x f o (by rw [hh, e])

theorem Sub.lt {h : Frag} {w : World} (s : Sub h w) {b : Nat} (hb : h b ≠ none) : b < w.heap.size := by
  cases hh : h b with
  | none => exact absurd hh hb
  | some z =>
    have := s b z.1 z.2 (by rw [hh])
    exact (Array.getElem?_eq_some_iff.1 this).1

/-! ### lists of assertions -/
def Stars : List Assn → Assn
  | [], _ => True
  | A :: l, h => ∃ h1 h2, A h1 ∧ Stars l h2 ∧ Cmp h1 h2 ∧ h = jn h1 h2

theorem Stars.weak {l : List Assn} : ∀ {h g : Frag}, Stars l h → Cmp h g → Stars l (jn h g) := by
  induction l with
  | nil => intros; trivial
  | cons A l ih =>
    rintro h g ⟨h1, h2, a, b, c, rfl⟩ hc
    have hc' := Cmp.jn_left hc c
    refine ⟨h1, jn h2 g, a, ih b hc'.2, ?_, jn_assoc _ _ _⟩
    exact (Cmp.jn_mk c.symm hc'.1.symm).symm

theorem Stars.tail {A : Assn} {l : List Assn} {h : Frag} (s : Stars (A :: l) h) : Stars l h := by
  obtain ⟨h1, h2, a, b, c, rfl⟩ := s
  rw [jn_comm c]
  exact Stars.weak b c.symm

theorem Stars.swap {A B : Assn} {l : List Assn} {h : Frag} (s : Stars (A :: B :: l) h) : Stars (B :: A :: l) h := by
  obtain ⟨h1, h2, a, ⟨h3, h4, b, s, c, rfl⟩, d, rfl⟩ := s
  have hd := Cmp.jn_left d.symm c
  refine ⟨h3, jn h1 h4, b, ⟨h1, h4, a, s, hd.2.symm, rfl⟩, ?_, ?_⟩
  · exact (Cmp.jn_mk hd.1.symm c.symm).symm
  · rw [← jn_assoc, ← jn_assoc, jn_comm hd.1.symm]

theorem Stars.cons {A : Assn} {l l' : List Assn} (f : ∀ h, Stars l h → Stars l' h) {h : Frag} (s : Stars (A :: l) h) : Stars (A :: l') h := by
  obtain ⟨h1, h2, a, b, c, rfl⟩ := s
  exact ⟨h1, h2, a, f _ b, c, rfl⟩

theorem Stars.perm {l l' : List Assn} (p : l.Perm l') : ∀ {h : Frag}, Stars l h → Stars l' h := by
  induction p with
  | nil => exact fun s => s
  | cons A _ ih => exact fun s => Stars.cons (fun _ => ih) s
  | swap A B l => exact fun s => Stars.swap s
  | trans _ _ a b => exact fun s => b (a s)

theorem Stars.append {l l' : List Assn} : ∀ {h : Frag}, Stars (l ++ l') h ↔ ∃ h1 h2, Stars l h1 ∧ Stars l' h2 ∧ Cmp h1 h2 ∧ h = jn h1 h2 := by
  induction l with
  | nil =>
    intro h
    constructor
    · intro s
      refine ⟨fun _ => none, h, trivial, s, fun b => .inl rfl, ?_⟩
      funext b; rfl
    · rintro ⟨h1, h2, _, s, c, rfl⟩
      rw [jn_comm c]
      exact Stars.weak s c.symm
  | cons A l ih =>
    intro h
    constructor
    · rintro ⟨h1, h2, a, b, c, rfl⟩
      obtain ⟨h3, h4, s, t, d, rfl⟩ := ih.1 b
      have hd := Cmp.jn_left c.symm d
      refine ⟨jn h1 h3, h4, ⟨h1, h3, a, s, hd.1.symm, rfl⟩, t, Cmp.jn_mk hd.2.symm d, (jn_assoc _ _ _).symm⟩
    · rintro ⟨h1, h2, ⟨h3, h4, a, s, c, rfl⟩, t, d, rfl⟩
      have hd := Cmp.jn_left d c
      refine ⟨h3, jn h4 h2, a, ih.2 ⟨h4, h2, s, t, hd.2, rfl⟩, (Cmp.jn_mk c.symm hd.1.symm).symm, jn_assoc _ _ _⟩

theorem Stars.single {A : Assn} {h : Frag} (a : A h) : Stars [A] h := ⟨h, fun _ => none, a, trivial, fun _ => .inr (.inl rfl), by funext b; unfold jn; cases h b <;> rfl⟩

/-! ### block assertions -/
/-- The block b holds o, and is owned. -/
@[irreducible] def pts (b : Nat) (o : Obj) : Assn := fun h => h b = some (true, o)
/-- The block b holds o, now and later; nobody owns it. -/
@[irreducible] def ro (b : Nat) (o : Obj) : Assn := fun h => h b = some (false, o)
/-- A fact that speaks of no memory. -/
@[irreducible] def pure_ (p : Prop) : Assn := fun _ => p

/-! ### the state of a walk -/
def Inv (h0 : Frag) (w0 : World) (hs : List Assn) (w : World) : Prop := ∃ h, Stars hs h ∧ Sub h w ∧ Fr h0 w0 h w

theorem Inv.mono {h0 w0 hs hs' w} (i : Inv h0 w0 hs w) (f : ∀ h, Stars hs h → Stars hs' h) : Inv h0 w0 hs' w :=
  let ⟨h, s, b, r⟩ := i; ⟨h, f h s, b, r⟩

theorem Inv.perm {h0 w0 hs hs' w} (p : hs.Perm hs') (i : Inv h0 w0 hs w) : Inv h0 w0 hs' w := i.mono fun _ => Stars.perm p

theorem Inv.start (hs : List Assn) {h w} (s : Stars hs h) (b : Sub h w) : Inv h w hs w := ⟨h, s, b, Fr.refl _ _⟩

/-- THE FRAME RULE. -/
theorem Inv.split {h0 w0 pre rest w} (i : Inv h0 w0 (pre ++ rest) w) :
    ∃ h1, Stars pre h1 ∧ Sub h1 w ∧ ∀ h1' w' post, Stars post h1' → Sub h1' w' → Fr h1 w h1' w' → Inv h0 w0 (post ++ rest) w' := by
  obtain ⟨h, s, b, r⟩ := i
  obtain ⟨h1, h2, s1, s2, c, rfl⟩ := Stars.append.1 s
  have b1 := b.left
  have b2 := b.right c
  refine ⟨h1, s1, b1, fun h1' w' post sp bp f => ?_⟩
  have c' : Cmp h1' h2 := by
    intro x
    cases hx : h1' x with
    | none => exact .inl rfl
    | some z =>
      cases hy : h2 x with
      | none => exact .inr (.inl rfl)
      | some y =>
        have hlt : x < w.heap.size := b2.lt (by rw [hy]; simp)
        have hdom : h1 x ≠ none := by
          rcases f.dom x (by rw [hx]; simp) with u | u
          · exact u
          · omega
        rcases c x with u | u | ⟨u, o, v⟩
        · exact absurd u hdom
        · rw [hy] at u; cases u
        · have hno : ¬ Own h1 x := fun ⟨o', e⟩ => by rw [v] at e; cases e
          have hno' : ¬ Own h1' x := fun ho => by
            rcases f.own x ho with e | e
            · exact hno e
            · omega
          have e1 := b2 x y.1 y.2 (by rw [hy])
          have e2 := bp x z.1 z.2 (by rw [hx])
          rw [f.keep x hlt hno, e1] at e2
          have hz : z.1 = false := by
            cases hz : z.1 with
            | false => rfl
            | true => exact absurd ⟨z.2, by rw [hx, ← hz]⟩ hno'
          have hy1 : y.1 = false := by
            rw [u, hy] at v
            cases v; rfl
          right; right
          have e3 : y.2 = z.2 := Option.some.inj e2
          have e4 : z = y := by
            rcases z with ⟨z1, z2⟩
            rcases y with ⟨y1, y2⟩
            simp_all
          refine ⟨by rw [e4], z.2, ?_⟩
          rw [← hz]
  have bk : Sub h2 w' := fun x fl o e => by
    have hlt : x < w.heap.size := b2.lt (by rw [e]; simp)
    have hno : ¬ Own h1 x := fun ⟨o', e'⟩ => by
      rcases c x with u | u | ⟨u, p, v⟩
      · rw [e'] at u; cases u
      · rw [e] at u; cases u
      · rw [e'] at v; cases v
    rw [f.keep x hlt hno]
    exact b2 x fl o e
  refine ⟨jn h1' h2, Stars.append.2 ⟨h1', h2, sp, s2, c', rfl⟩, Sub.mk bp bk, r.trans ?_⟩
  refine ⟨f.os, f.tape, f.output, f.size, fun x hx hn => f.keep x hx fun ⟨o, e⟩ => hn ⟨o, by unfold jn; rw [e]; rfl⟩, fun x hx => ?_, fun x hx => ?_⟩
  · obtain ⟨o, e⟩ := hx
    unfold jn at e
    cases hh : h1' x with
    | none =>
      rw [hh] at e
      left
      refine ⟨o, ?_⟩
      have e' : h2 x = some (true, o) := e
      rw [jn_comm c]; unfold jn; rw [e']; rfl
    | some z =>
      rw [hh] at e
      simp at e
      rcases f.own x ⟨o, by rw [hh, e]⟩ with ⟨o', u⟩ | u
      · exact .inl ⟨o', by unfold jn; rw [u]; rfl⟩
      · exact .inr u
  · cases hh : h1' x with
    | none =>
      have : h2 x ≠ none := by unfold jn at hx; rw [hh] at hx; exact hx
      left; intro hn; apply this
      rw [jn_comm c] at hn; unfold jn at hn; revert hn; cases h2 x <;> simp
    | some z =>
      rcases f.dom x (by rw [hh]; simp) with u | u
      · left; intro hn; apply u; unfold jn at hn; revert hn; cases h1 x <;> simp
      · exact .inr u

end Go.Proofs.YtbhladkbnleeoaaGreat

namespace Go.Proofs.YtbhladkbnleeoaaGreat

/-! ### frames -/
abbrev Env := Nat → Value
def ext : List (Nat × Value) → Env → Env
  | [], ρ => ρ
  | (k, v) :: l, ρ => fun i => if i = k then v else ext l ρ i

def act (n : Nat) (ds : List Deferred) (ρ : Env) : Act := { tmps := Array.ofFn fun i : Fin n => ρ i.val, defers := ds }

theorem act_eval (n : Nat) (ds : List Deferred) (ρ : Env) (t : Nat) : (act n ds ρ).eval (.tmp t) = if t < n then ρ t else undef := by
  simp only [Act.eval, act, Array.getD_eq_getD_getElem?, Array.getElem?_ofFn]
  split <;> rfl

theorem act_put (n : Nat) (ds : List Deferred) (ρ : Env) (d : Nat) (v : Value) : (act n ds ρ).put (some d) v = act n ds (fun i => if i = d then v else ρ i) := by
  unfold act Act.put
  simp only [Act.mk.injEq, and_true]
  apply Array.ext
  · simp
  · intro i h1 h2
    simp only [Array.size_ofFn] at h2
    rw [Array.getElem_setIfInBounds]
    · simp only [Array.getElem_ofFn]
      by_cases h : d = i
      · simp [h]
      · rw [if_neg h, if_neg (fun e => h e.symm)]; exact Array.getElem_ofFn _
    · simpa using h2

theorem ext_cons (k : Nat) (v : Value) (l : List (Nat × Value)) (ρ : Env) : ext ((k, v) :: l) ρ = fun i => if i = k then v else ext l ρ i := rfl

/-- Slots of a frame hold values. -/
def Has : List (Nat × Value) → Env → Prop
  | [], _ => True
  | (k, v) :: l, ρ => ρ k = v ∧ Has l ρ

theorem ext_has {l : List (Nat × Value)} {ρ : Env} (h : Has l ρ) : ext l ρ = ρ := by
  induction l with
  | nil => rfl
  | cons x l ih =>
    obtain ⟨k, v⟩ := x
    funext i
    rw [ext_cons, ih h.2]
    show (if i = k then v else ρ i) = ρ i
    by_cases e : i = k
    · rw [if_pos e, e, h.1]
    · rw [if_neg e]

structure Cx where
  n : Nat
  r : Option Nat
  ds : List Deferred
  h0 : Frag
  w0 : World

abbrev Cx.act (C : Cx) (ρ : Env) : Act := YtbhladkbnleeoaaGreat.act C.n C.ds ρ
abbrev Cx.inv (C : Cx) (hs : List Assn) (w : World) : Prop := Inv C.h0 C.w0 hs w

def wideR (r : Option Nat) : Fence := { fn := fun _ => True, depth := none, alive := false, round := r }

theorem callsIn_wideR {r : Option Nat} {n : Nat} {P : Program} {f : FuncId} {args : Array Value} {w : World} {R : Ending → World → Prop} : CallsIn (wideR r) n P f args w R ↔ Calls P f args w R :=
  callsIn_wide (n := n)

/-! ### operands -/
def Ev (n : Nat) (ρ : Env) (x : Operand) (v : Value) : Prop := ∀ ds, (act n ds ρ).eval x = v
theorem Ev.c {n ρ v} : Ev n ρ (.const v) v := fun _ => rfl
theorem Ev.f {n ρ f} : Ev n ρ (.func f) (.func (.func f) #[] #[]) := fun _ => rfl
theorem Ev.t {n ρ t v} (ht : Nat.blt t n = true) (h : ρ t = v) : Ev n ρ (.tmp t) v := fun ds => by
  rw [act_eval, if_pos (Nat.lt_of_succ_le (by simpa [Nat.blt] using ht)), h]

/-- Operands one by one. -/
inductive EvL (n : Nat) (ρ : Env) : List Operand → List Value → Prop
  | nil : EvL n ρ [] []
  | cons {x v xs vs} : Ev n ρ x v → EvL n ρ xs vs → EvL n ρ (x :: xs) (v :: vs)

theorem EvL.map {n ρ} {xs : List Operand} {vs : List Value} (h : EvL n ρ xs vs) (ds) : xs.toArray.map (act n ds ρ).eval = vs.toArray := by
  induction h with
  | nil => simp
  | cons h1 _ ih =>
    simp only [List.map_toArray] at ih ⊢
    have := h1 ds
    simp only [List.map_cons, this]
    simpa using ih

/-! ### the judgements -/
def J (P : Program) (C : Cx) (c : Code) (Q : Exit → Act → World → Prop) (ρ : Env) (hs : List Assn) : Prop :=
  ∀ w, C.inv hs w → c.wpIn (wideR C.r) 0 P Q (C.act ρ) w

def At (C : Cx) (Q : Exit → Act → World → Prop) (e : Exit) (ρ : Env) (hs : List Assn) : Prop := ∀ w, C.inv hs w → Q e (C.act ρ) w

def JL (P : Program) (C : Cx) (ops : Array Oper) (Q : Exit → Act → World → Prop) (rest : List Oper) (ρ : Env) (hs : List Assn) : Prop :=
  ∀ w, C.inv hs w → wpListIn (wideR C.r) 0 P ops Q rest (C.act ρ) w

/-- The operation reads: its value, at every world of the state. -/
def Rd (P : Program) (C : Cx) (hs : List Assn) (ρ : Env) (o : Oper) (v : Value) : Prop :=
  ∀ w, C.inv hs w → (o.semAt C.r (C.act ρ).eval).run P w = .ok (.value v) w

/-- The operation acts: it ends in a value and a state that K takes. -/
def Ef (P : Program) (C : Cx) (hs : List Assn) (ρ : Env) (o : Oper) (K : Value → List Assn → Prop) : Prop :=
  ∀ w, C.inv hs w →
    (∃ v hs' w', ((o.semAt C.r (C.act ρ).eval).run P w = .ok (.value v) w' ∨ ((o.semAt C.r (C.act ρ).eval).run P w = .ok .skip w' ∧ v = undef)) ∧ C.inv hs' w' ∧ K v hs') ∨
    (∃ f args w1, (o.semAt C.r (C.act ρ).eval).run P w = .ok (.enter f args) w1 ∧ Calls P f args w1 fun e w' => ∃ v hs', e = .returned v ∧ C.inv hs' w' ∧ K v hs') ∨
    (∃ l f tmps assign body w1, (o.semAt C.r (C.act ρ).eval).run P w = .ok (.round l f tmps assign body) w1 ∧
      RoundIn (wideR C.r) 0 P l f tmps assign body w1 fun e w' => ∃ v hs', e = .returned v ∧ C.inv hs' w' ∧ K v hs')

theorem Rd.of {P C hs ρ} {o : Oper} {v} (hnd : ∀ c, o.op ≠ .defer c) (h : ∀ w, C.inv hs w → (execOp (C.act ρ).eval o).run P w = .ok (.value v) w) : Rd P C hs ρ o v := fun w hi => by
  rw [Oper.semAt_eq _ _ _ hnd]; exact h w hi

def putd (d : Option Tmp) (v : Value) (ρ : Env) : Env := match d with | some d => ext [(d, v)] ρ | none => ρ

theorem act_putd (n ds d v ρ) : (act n ds ρ).put d v = act n ds (putd d v ρ) := by
  cases d with
  | none => rfl
  | some d => rw [act_put]; rfl

theorem uponIn_of {P : Program} {C : Cx} {o : Oper} {ρ : Env} {hs : List Assn} {K : Value → List Assn → Prop} {next : Act → World → Prop} {Q : Exit → Act → World → Prop}
    (h : Ef P C hs ρ o K) (hk : ∀ v hs', K v hs' → ∀ w, C.inv hs' w → next (C.act (putd o.dst v ρ)) w) (w : World) (hi : C.inv hs w) : o.wpIn (wideR C.r) 0 P (C.act ρ) w next Q := by
  refine ⟨fun _ _ => trivial, ?_⟩
  have hnext : ∀ v hs' w', K v hs' → C.inv hs' w' → next ((C.act ρ).put o.dst v) w' := fun v hs' w' a b => by
    have := hk v hs' a w' b
    show next ((act C.n C.ds ρ).put o.dst v) w'
    rw [act_putd]
    exact this
  rcases h w hi with ⟨v, hs', w', a, b, c⟩ | ⟨f, args, w1, a, b⟩ | ⟨l, f, tmps, asn, bo, w1, a, b⟩
  · rcases a with a | ⟨a, rfl⟩
    · show o.uponIn (wideR C.r) 0 P (C.act ρ) next Q ((o.semAt C.r (C.act ρ).eval).run P w)
      rw [a]; exact hnext v hs' w' c b
    · show o.uponIn (wideR C.r) 0 P (C.act ρ) next Q ((o.semAt C.r (C.act ρ).eval).run P w)
      rw [a]; exact hnext undef hs' w' c b
  · show o.uponIn (wideR C.r) 0 P (C.act ρ) next Q ((o.semAt C.r (C.act ρ).eval).run P w)
    rw [a]
    refine ⟨fun hd => by simp [wideR] at hd, callsIn_wideR.2 (b.mono ?_)⟩
    rintro e w' ⟨v, hs', rfl, y, z⟩
    exact hnext v hs' w' z y
  · show o.uponIn (wideR C.r) 0 P (C.act ρ) next Q ((o.semAt C.r (C.act ρ).eval).run P w)
    rw [a]
    refine ⟨fun hd => by simp [wideR] at hd, b.mono ?_⟩
    rintro e w' ⟨v, hs', rfl, y, z⟩
    exact hnext v hs' w' z y

theorem Rd.ef {P C hs ρ o v K} (h : Rd P C hs ρ o v) (k : K v hs) : Ef P C hs ρ o K := fun w hi => .inl ⟨v, hs, w, .inl (h w hi), hi, k⟩

/-! ### regions in the text's order -/
section
variable {P : Program} {C : Cx} {ops : Array Oper} {Q : Exit → Act → World → Prop} {rest : List Oper} {l : List (Nat × Value)} {ρ : Env} {hs : List Assn}
  {op : Op} {ty : TypeId} {pos : String} {af : Array Edge} {d : Nat}

theorem JL.nil (h : At C Q .normal ρ hs) : JL P C ops Q [] ρ hs := h

theorem JL.step {o : Oper} (hw : ∀ w, C.inv hs w → Region.wanted o (yielded ops (C.act ρ).tmps) = true)
    (h : Ef P C hs ρ o fun v hs' => JL P C ops Q rest (putd o.dst v ρ) hs') : JL P C ops Q (o :: rest) ρ hs := fun w hi => by
  unfold wpListIn
  rw [if_pos (hw w hi)]
  exact uponIn_of h (fun v hs' k w' hi' => k w' hi') w hi

theorem wanted_none {o : Oper} (hg : o.guard = none) (y : Nat → Option Bool) : Region.wanted o y = true := by simp [Region.wanted, hg]

theorem JL.rd {v : Value} (h : Rd P C hs (ext l ρ) ⟨some d, op, ty, pos, af, none⟩ v) (k : JL P C ops Q rest (ext ((d, v) :: l) ρ) hs) :
    JL P C ops Q (⟨some d, op, ty, pos, af, none⟩ :: rest) (ext l ρ) hs :=
  JL.step (fun _ _ => wanted_none rfl _) (h.ef k)

theorem JL.ef (h : Ef P C hs (ext l ρ) ⟨some d, op, ty, pos, af, none⟩ fun v hs' => JL P C ops Q rest (ext ((d, v) :: l) ρ) hs') :
    JL P C ops Q (⟨some d, op, ty, pos, af, none⟩ :: rest) (ext l ρ) hs :=
  JL.step (fun _ _ => wanted_none rfl _) h

theorem JL.ef0 (h : Ef P C hs ρ ⟨none, op, ty, pos, af, none⟩ fun _ hs' => JL P C ops Q rest ρ hs') :
    JL P C ops Q (⟨none, op, ty, pos, af, none⟩ :: rest) ρ hs :=
  JL.step (fun _ _ => wanted_none rfl _) h

theorem yielded_act {j t : Nat} {b : Bool} (hj : (ops[j]?).bind (·.dst) = some t) (hv : Ev C.n ρ (.tmp t) (.bool b)) : yielded ops (C.act ρ).tmps j = some b := by
  have h1 := hv C.ds
  rw [act_eval] at h1
  split at h1
  · rename_i hlt
    unfold yielded
    rw [hj]
    simp [Cx.act, act, hlt, h1]
  · cases h1

/-- What a guard's operation has left: a boolean, or nothing, when it was itself left out. -/
def EvO (n : Nat) (ρ : Env) (t : Nat) : Option Bool → Prop
  | some b => Ev n ρ (.tmp t) (.bool b)
  | none => Ev n ρ (.tmp t) undef
theorem yieldedO {j t : Nat} {x : Option Bool} (hj : (ops[j]?).bind (·.dst) = some t) (hv : EvO C.n ρ t x) : yielded ops (C.act ρ).tmps j = x := by
  cases x with
  | some b => exact yielded_act hj hv
  | none =>
    have h1 := hv C.ds
    rw [act_eval] at h1
    unfold yielded
    rw [hj]
    by_cases hlt : t < C.n
    · rw [if_pos hlt] at h1
      simp [Cx.act, act, hlt, h1, undef]
    · simp [Cx.act, act, hlt]
theorem JL.skU {j t : Nat} {want : Bool} (hj : (ops[j]?).bind (·.dst) = some t) (hv : Ev C.n (ext l ρ) (.tmp t) undef)
    (k : JL P C ops Q rest (ext ((d, undef) :: l) ρ) hs) :
    JL P C ops Q (⟨some d, op, ty, pos, af, some (j, want)⟩ :: rest) (ext l ρ) hs := fun w hi => by
  unfold wpListIn
  have : Region.wanted ⟨some d, op, ty, pos, af, some (j, want)⟩ (yielded ops (C.act (ext l ρ)).tmps) = false := by
    simp [Region.wanted, yieldedO (x := none) hj hv]
  rw [if_neg (by rw [this]; simp)]
  refine ⟨fun _ _ => trivial, ?_⟩
  rw [act_putd]
  exact k w hi

theorem JL.rdG {v : Value} {j t : Nat} {b want : Bool} (hj : (ops[j]?).bind (·.dst) = some t) (hv : Ev C.n (ext l ρ) (.tmp t) (.bool b)) (hb : b = want)
    (h : Rd P C hs (ext l ρ) ⟨some d, op, ty, pos, af, some (j, want)⟩ v) (k : JL P C ops Q rest (ext ((d, v) :: l) ρ) hs) :
    JL P C ops Q (⟨some d, op, ty, pos, af, some (j, want)⟩ :: rest) (ext l ρ) hs :=
  JL.step (fun _ _ => by simp [Region.wanted, yielded_act hj hv, hb]) (h.ef k)

theorem JL.efG {j t : Nat} {b want : Bool} (hj : (ops[j]?).bind (·.dst) = some t) (hv : Ev C.n (ext l ρ) (.tmp t) (.bool b)) (hb : b = want)
    (h : Ef P C hs (ext l ρ) ⟨some d, op, ty, pos, af, some (j, want)⟩ fun v hs' => JL P C ops Q rest (ext ((d, v) :: l) ρ) hs') :
    JL P C ops Q (⟨some d, op, ty, pos, af, some (j, want)⟩ :: rest) (ext l ρ) hs :=
  JL.step (fun _ _ => by simp [Region.wanted, yielded_act hj hv, hb]) h

theorem JL.skG {j t : Nat} {b want : Bool} (hj : (ops[j]?).bind (·.dst) = some t) (hv : Ev C.n (ext l ρ) (.tmp t) (.bool b)) (hb : b = !want)
    (k : JL P C ops Q rest (ext ((d, undef) :: l) ρ) hs) :
    JL P C ops Q (⟨some d, op, ty, pos, af, some (j, want)⟩ :: rest) (ext l ρ) hs := fun w hi => by
  unfold wpListIn
  have : Region.wanted ⟨some d, op, ty, pos, af, some (j, want)⟩ (yielded ops (C.act (ext l ρ)).tmps) = false := by
    simp only [Region.wanted, yielded_act hj hv, hb]
    cases want <;> rfl
  rw [if_neg (by rw [this]; simp)]
  refine ⟨fun _ _ => trivial, ?_⟩
  rw [act_putd]
  exact k w hi

/-! ### code -/
def Then (P : Program) (C : Cx) (y : Code) (Q : Exit → Act → World → Prop) : Exit → Act → World → Prop := Exit.then (y.wpIn (wideR C.r) 0 P Q) Q

theorem J.seq {x y : Code} (h : J P C x (Then P C y Q) ρ hs) : J P C (.seq x y) Q ρ hs := fun w hi => wpIn_seq (h w hi)
theorem At.next {n n' : Nat} {r : Option Nat} {ds ds' : List Deferred} {h0 h0' : Frag} {w0 w0' : World} {y : Code} (h : J P ⟨n, r, ds, h0, w0⟩ y Q ρ hs) : At ⟨n, r, ds, h0, w0⟩ (Then P ⟨n', r, ds', h0', w0'⟩ y Q) .normal ρ hs := h
theorem At.nextR {C' : Cx} {y : Code} (h : At C Q .ret ρ hs) : At C (Then P C' y Q) .ret ρ hs := h
theorem At.nextX {C' : Cx} {y : Code} {i : Nat} (h : At C Q (.exit i) ρ hs) : At C (Then P C' y Q) (.exit i) ρ hs := h
theorem J.skip (h : At C Q .normal ρ hs) : J P C .skip Q ρ hs := fun w hi => wpIn_skip (h w hi)
theorem J.ret (h : At C Q .ret ρ hs) : J P C .ret Q ρ hs := fun w hi => wpIn_ret (h w hi)
theorem J.exit {i : Nat} (h : At C Q (.exit i) ρ hs) : J P C (.exit i) Q ρ hs := fun w hi => wpIn_exit (h w hi)
theorem J.block {i : Nat} {c : Code} (h : J P C c (Exit.inBlock i Q) ρ hs) : J P C (.block i c) Q ρ hs := fun w hi => wpIn_block (h w hi)
theorem At.blkN {i : Nat} (h : At C Q .normal ρ hs) : At C (Exit.inBlock i Q) .normal ρ hs := h
theorem At.blkR {i : Nat} (h : At C Q .ret ρ hs) : At C (Exit.inBlock i Q) .ret ρ hs := h
theorem At.blkX {i : Nat} (h : At C Q .normal ρ hs) : At C (Exit.inBlock i Q) (.exit i) ρ hs := fun w hi => by
  show if i = i then _ else _
  rw [if_pos rfl]; exact h w hi
theorem At.blkY {i k : Nat} (hk : Nat.beq k i = false) (h : At C Q (.exit k) ρ hs) : At C (Exit.inBlock i Q) (.exit k) ρ hs := fun w hi => by
  show if k = i then _ else _
  rw [if_neg (fun e => by subst e; simp at hk)]; exact h w hi
theorem J.region {id : Nat} {os : List Oper} (h : JL P C os.toArray Q os ρ hs) : J P C (.region id os.toArray false) Q ρ hs := fun w hi => wpIn_region_lit (h w hi)

theorem J.cond {c : Operand} {x y : Code} {b : Bool} (hv : Ev C.n ρ c (.bool b)) (ht : b = true → J P C x Q ρ hs) (hf : b = false → J P C y Q ρ hs) :
    J P C (.cond c x y) Q ρ hs := fun w hi => wpIn_cond_split (hv _) (fun e => ht e w hi) (fun e => hf e w hi)
theorem J.condT {c : Operand} {x y : Code} (hv : Ev C.n ρ c (.bool true)) (h : J P C x Q ρ hs) : J P C (.cond c x y) Q ρ hs := fun w hi => wpIn_cond_true (hv _) (h w hi)
theorem J.condF {c : Operand} {x y : Code} (hv : Ev C.n ρ c (.bool false)) (h : J P C y Q ρ hs) : J P C (.cond c x y) Q ρ hs := fun w hi => wpIn_cond_false (hv _) (h w hi)
theorem J.condD {c : Operand} {x y : Code} {p : Prop} [Decidable p] (hv : Ev C.n ρ c (.bool (decide p))) (ht : p → J P C x Q ρ hs) (hf : ¬ p → J P C y Q ρ hs) :
    J P C (.cond c x y) Q ρ hs := J.cond hv (fun e => ht (of_decide_eq_true e)) (fun e => hf (of_decide_eq_false e))

/-- A state may be changed to one that says the same or less. -/
theorem J.weak {c : Code} {hs' : List Assn} (f : ∀ h, Stars hs h → Stars hs' h) (h : J P C c Q ρ hs') : J P C c Q ρ hs := fun w hi => h w (hi.mono f)
theorem JL.weak {hs' : List Assn} (f : ∀ h, Stars hs h → Stars hs' h) (h : JL P C ops Q rest ρ hs') : JL P C ops Q rest ρ hs := fun w hi => h w (hi.mono f)
theorem At.weak {e : Exit} {hs' : List Assn} (f : ∀ h, Stars hs h → Stars hs' h) (h : At C Q e ρ hs') : At C Q e ρ hs := fun w hi => h w (hi.mono f)
/-- Forget all slots but these. -/
theorem J.live {c : Code} {K : List (Nat × Value)} (hl : Has K ρ) (h : ∀ ρ', J P C c Q (ext K ρ') hs) : J P C c Q ρ hs := by
  have := h ρ
  rwa [ext_has hl] at this

/-! ### loops -/
theorem wpIn_loop_ix {F : Fence} {n : Nat} {P : Program} {Q : Exit → Act → World → Prop} {a : Act} {w : World} {c : Code} {I : Nat → Act → World → Prop} {m : Nat} (h₀ : I m a w)
    (round : ∀ m a w, I m a w → c.wpIn F n P (Exit.then (fun a' w' => ∃ m', m' < m ∧ I m' a' w') Q) a w) : (Code.loop c).wpIn F n P Q a w := by
  intro b k cs hro hb hr
  have key : ∀ j a w, I j a w →
      ∃ e a' w', Q e a' w' ∧ ArrivesIn (Machine.fenced P F) P (lone (b.atR a (.code c :: .inLoop c :: k)) cs w) b k cs e a' w' := by
    intro j
    induction j using Nat.strongRecOn with
    | _ j ih =>
      intro a w hI
      obtain ⟨e, a₁, w₁, hq, harr⟩ := round j a w hI b (.inLoop c :: k) cs hro hb hr
      cases e with
      | normal =>
        obtain ⟨m', hlt, hI₁⟩ := hq
        obtain ⟨e₂, a₂, w₂, hq₂, harr₂⟩ := ih m' hlt a₁ w₁ hI₁
        exact ⟨e₂, a₂, w₂, hq₂, .of_steps (StepsIn.trans harr (.one (fenced_calm hb hr rfl) stepR_inLoop)) harr₂⟩
      | exit id => exact ⟨_, a₁, w₁, hq, .pass (x := .inLoop c) rfl (fun _ _ => .inl (by simp)) harr⟩
      | goto l => exact ⟨_, a₁, w₁, hq, .pass (x := .inLoop c) rfl (fun _ _ => .inl (by simp)) harr⟩
      | ret => exact ⟨_, a₁, w₁, hq, .pass (x := .inLoop c) rfl (fun _ _ => .inl (by simp)) harr⟩
      | panic ch => exact ⟨_, a₁, w₁, hq, .pass (x := .inLoop c) rfl (fun _ _ => .inl (by simp)) harr⟩
      | outgrown => exact ⟨_, a₁, w₁, hq, .pass (x := .inLoop c) rfl (fun _ _ => .inl (by simp)) harr⟩
  obtain ⟨e, a', w', hq, harr⟩ := key m a w h₀
  exact ⟨e, a', w', hq, .of_steps (.one (fenced_calm hb hr rfl) stepR_loop) harr⟩

def LoopQ (C : Cx) {X : Type} (S : X → List (Nat × Value)) (K : List (Nat × Value)) (H : X → List Assn) (p : X → Prop) (μ : X → Nat) (m : Nat) (Q : Exit → Act → World → Prop) : Exit → Act → World → Prop :=
  Exit.then (fun a w => ∃ x ρ, p x ∧ μ x < m ∧ a = C.act (ext (S x ++ K) ρ) ∧ C.inv (H x) w) Q

theorem J.loop {X : Type} (S : X → List (Nat × Value)) {K : List (Nat × Value)} (H : X → List Assn) (p : X → Prop) (μ : X → Nat) (x0 : X) {c : Code}
    (h0 : p x0) (hS : Has (S x0) ρ) (hK : Has K ρ) (hH : ∀ h, Stars hs h → Stars (H x0) h)
    (round : ∀ x ρ', p x → J P C c (LoopQ C S K H p μ (μ x) Q) (ext (S x ++ K) ρ') (H x)) : J P C (.loop c) Q ρ hs := by
  intro w hi
  have hap : ∀ (l l' : List (Nat × Value)) (ρ : Env), Has l ρ → Has l' ρ → Has (l ++ l') ρ := by
    intro l l' ρ
    induction l with
    | nil => exact fun _ h => h
    | cons a l ih => exact fun h h' => ⟨h.1, ih h.2 h'⟩
  refine wpIn_loop_ix (I := fun m a w => ∃ x ρ, p x ∧ μ x = m ∧ a = C.act (ext (S x ++ K) ρ) ∧ C.inv (H x) w) (m := μ x0) ⟨x0, ρ, h0, rfl, by rw [ext_has (hap _ _ _ hS hK)], hi.mono hH⟩ ?_
  rintro m a w' ⟨x, ρ', hp, rfl, rfl, hi'⟩
  refine wpIn_mono (round x ρ' hp w' hi') ?_
  intro e a' w'' hq
  cases e with
  | normal =>
    obtain ⟨x', ρ'', hp', hlt, ha', hi''⟩ := hq
    exact ⟨μ x', hlt, x', ρ'', hp', rfl, ha', hi''⟩
  | ret => exact hq
  | exit i => exact hq
  | goto l => exact hq
  | panic c => exact hq
  | outgrown => exact hq

theorem At.again {X : Type} {S : X → List (Nat × Value)} {K : List (Nat × Value)} {H : X → List Assn} {p : X → Prop} {μ : X → Nat} {m : Nat} (x : X) (hp : p x) (hm : μ x < m)
    (hS : Has (S x) ρ) (hK : Has K ρ) (hH : ∀ h, Stars hs h → Stars (H x) h) : At C (LoopQ C S K H p μ m Q) .normal ρ hs := fun w hi => by
  have hap : ∀ (l l' : List (Nat × Value)) (ρ : Env), Has l ρ → Has l' ρ → Has (l ++ l') ρ := by
    intro l l' ρ
    induction l with
    | nil => exact fun _ h => h
    | cons a l ih => exact fun h h' => ⟨h.1, ih h.2 h'⟩
  exact ⟨x, ρ, hp, hm, by rw [ext_has (hap _ _ _ hS hK)], hi.mono hH⟩
theorem At.loopR {X : Type} {S : X → List (Nat × Value)} {K : List (Nat × Value)} {H : X → List Assn} {p : X → Prop} {μ : X → Nat} {m : Nat} (h : At C Q .ret ρ hs) : At C (LoopQ C S K H p μ m Q) .ret ρ hs := h
theorem At.loopX {X : Type} {S : X → List (Nat × Value)} {K : List (Nat × Value)} {H : X → List Assn} {p : X → Prop} {μ : X → Nat} {m : Nat} {i : Nat} (h : At C Q (.exit i) ρ hs) : At C (LoopQ C S K H p μ m Q) (.exit i) ρ hs := h
end

end Go.Proofs.YtbhladkbnleeoaaGreat

namespace Go.Proofs.YtbhladkbnleeoaaGreat

/-! ### finding an assertion in a state -/
inductive Take (A : Assn) : List Assn → List Assn → Prop
  | here {l} : Take A (A :: l) l
  | there {B l l'} : Take A l l' → Take A (B :: l) (B :: l')

theorem Take.perm {A l l'} (t : Take A l l') : l.Perm (A :: l') := by
  induction t with
  | here => exact List.Perm.refl _
  | there _ ih => exact (List.Perm.cons _ ih).trans (List.Perm.swap _ _ _)

inductive Sel : List Assn → List Assn → List Assn → Prop
  | nil {l} : Sel [] l l
  | cons {A pre l l' rest} : Take A l l' → Sel pre l' rest → Sel (A :: pre) l rest

theorem Sel.perm {pre l rest} (s : Sel pre l rest) : l.Perm (pre ++ rest) := by
  induction s with
  | nil => exact List.Perm.refl _
  | cons t _ ih => exact t.perm.trans (List.Perm.cons _ ih)

/-- Replace one assertion by another in its place. -/
inductive Rep (A B : Assn) : List Assn → List Assn → Prop
  | here {l} : Rep A B (A :: l) (B :: l)
  | there {D l l'} : Rep A B l l' → Rep A B (D :: l) (D :: l')

theorem Rep.perm {A B l l'} (r : Rep A B l l') : ∃ m, l.Perm (A :: m) ∧ (B :: m).Perm l' := by
  induction r with
  | here => exact ⟨_, List.Perm.refl _, List.Perm.refl _⟩
  | there _ ih =>
    obtain ⟨m, a, b⟩ := ih
    exact ⟨_, (List.Perm.cons _ a).trans (List.Perm.swap _ _ _), (List.Perm.swap _ _ _).trans (List.Perm.cons _ b)⟩

/-- The block b holds o, owned or not. -/
inductive Blk (b : Nat) (o : Obj) : List Assn → Prop
  | own {l} : Blk b o (pts b o :: l)
  | rd {l} : Blk b o (ro b o :: l)
  | there {A l} : Blk b o l → Blk b o (A :: l)

theorem Blk.get {b o} : ∀ {hs : List Assn} {h : Frag} {w : World}, Blk b o hs → Stars hs h → Sub h w → w.heap[b]? = some o := by
  intro hs h w k
  induction k generalizing h with
  | own =>
    rintro ⟨h1, h2, a, _, _, rfl⟩ s
    unfold pts at a
    exact s.left b true o a
  | rd =>
    rintro ⟨h1, h2, a, _, _, rfl⟩ s
    unfold ro at a
    exact s.left b false o a
  | there _ ih =>
    rintro ⟨h1, h2, _, t, c, rfl⟩ s
    exact ih t (s.right c)

theorem Blk.inv {b o} {hs : List Assn} {h0 w0 w} (k : Blk b o hs) (i : Inv h0 w0 hs w) : w.heap[b]? = some o :=
  let ⟨_, s, c, _⟩ := i; k.get s c

/-! ### cells by place -/
inductive Nth : Nat → List Value → Value → Prop
  | zero {v l} : Nth 0 (v :: l) v
  | succ {n a l v} : Nth n l v → Nth (n + 1) (a :: l) v
theorem Nth.get {n l v} (h : Nth n l v) : l[n]? = some v := by induction h with
  | zero => rfl
  | succ _ ih => simpa using ih
inductive SetN : Nat → Value → List Value → List Value → Prop
  | zero {v a l} : SetN 0 v (a :: l) (v :: l)
  | succ {n v a l l'} : SetN n v l l' → SetN (n + 1) v (a :: l) (a :: l')
theorem SetN.eq {n v l l'} (h : SetN n v l l') : l' = l.set n v ∧ n < l.length := by induction h with
  | zero => simp
  | succ _ ih => exact ⟨by simp [ih.1], by simp; omega⟩
/-! ### worlds change -/
def one (b : Nat) (o : Obj) : Frag := fun x => if x = b then some (true, o) else none
theorem one_same (b o) : one b o b = some (true, o) := if_pos rfl
theorem one_ne {b x : Nat} (o : Obj) (h : x ≠ b) : one b o x = none := if_neg h
theorem one_pts (b o) : pts b o (one b o) := by unfold pts; exact one_same b o
theorem one_inv {b x : Nat} {o o' : Obj} {f : Bool} (h : one b o x = some (f, o')) : x = b ∧ f = true ∧ o' = o := by
  by_cases e : x = b
  · subst e; rw [one_same] at h; cases h; exact ⟨rfl, rfl, rfl⟩
  · rw [one_ne o e] at h; cases h
theorem one_dom {b x : Nat} {o : Obj} (h : one b o x ≠ none) : x = b := by
  by_cases e : x = b
  · exact e
  · exact absurd (one_ne o e) h

theorem Inv.alloc {h0 w0 hs w} (i : Inv h0 w0 hs w) (o : Obj) : Inv h0 w0 (pts w.heap.size o :: hs) (w.alloc o) := by
  obtain ⟨h1, s1, b1, f⟩ := Inv.split (pre := []) (rest := hs) i
  have hn : ∀ b, h1 b ≠ none → b < w.heap.size := fun b hb => b1.lt hb
  refine f (one w.heap.size o) (w.alloc o) [pts w.heap.size o] (Stars.single (one_pts _ _)) ?_ ?_
  · intro b fl o' e
    obtain ⟨rfl, rfl, rfl⟩ := one_inv e
    exact heap_alloc_new w _
  · refine ⟨rfl, rfl, rfl, by simp, fun b hb _ => heap_alloc_old w o b hb, fun b ⟨o', e⟩ => ?_, fun b hb => ?_⟩
    · obtain ⟨rfl, _, _⟩ := one_inv e
      exact .inr (Nat.le_refl _)
    · exact .inr (Nat.le_of_eq (one_dom hb).symm)

def setBlk (w : World) (b : Nat) (o : Obj) : World := { w with heap := w.heap.setIfInBounds b o }

theorem Inv.upd {h0 w0 hs w b o o' hs'} (i : Inv h0 w0 hs w) (r : Rep (pts b o) (pts b o') hs hs') : Inv h0 w0 hs' (setBlk w b o') := by
  obtain ⟨m, p1, p2⟩ := r.perm
  obtain ⟨h1, s1, b1, f⟩ := Inv.split (pre := [pts b o]) (rest := m) (i.perm p1)
  have ho : Own h1 b := by
    obtain ⟨h2, h3, a, _, _, rfl⟩ := s1
    unfold pts at a
    exact ⟨o, by unfold jn; rw [a]; rfl⟩
  have hlt : b < w.heap.size := by
    have := Blk.get (b := b) (o := o) .own s1 b1
    exact (Array.getElem?_eq_some_iff.1 this).1
  refine Inv.perm p2 (f (one b o') (setBlk w b o') [pts b o'] (Stars.single (one_pts _ _)) ?_ ?_)
  · intro x fl o'' e
    obtain ⟨rfl, rfl, rfl⟩ := one_inv e
    simp [setBlk, hlt]
  · refine ⟨rfl, rfl, rfl, by simp [setBlk], fun x hx hn => ?_, fun x ⟨o'', e⟩ => ?_, fun x hx => ?_⟩
    · have hne : b ≠ x := fun e => hn (e ▸ ho)
      simp [setBlk, Array.getElem?_setIfInBounds_ne hne]
    · obtain ⟨rfl, _, _⟩ := one_inv e
      exact .inl ho
    · have := one_dom hx
      subst this
      obtain ⟨o'', e⟩ := ho
      exact .inl (by rw [e]; simp)

theorem Inv.drew {h0 w0 hs w} (i : Inv h0 w0 hs w) : Inv h0 w0 hs w.drew := by
  obtain ⟨h, s, b, f⟩ := i
  exact ⟨h, s, b, ⟨f.os, f.tape, f.output, f.size, f.keep, f.own, f.dom⟩⟩

/-! ### functions -/
def Ent (P : Program) (f : FuncId) : Prop := ∃ fn, P.funcs[f]? = some fn ∧ (fn.name == "runtime.NumGoroutine") = false ∧ fn.body.isNone = false

structure Fn (P : Program) (f : FuncId) (args : List Value) (pre : List Assn) {X : Type} (R : X → Prop) (rt : X → Value) (post : X → List Assn) : Prop where
  ent : Ent P f
  calls : ∀ w h, Stars pre h → Sub h w → Calls P f args.toArray w fun e w' => ∃ x h', R x ∧ e = .returned (rt x) ∧ Stars (post x) h' ∧ Sub h' w' ∧ Fr h w h' w'

def RetQ (P : Program) (fn : Func) (h0 : Frag) (w0 : World) {X : Type} (R : X → Prop) (rt : X → Value) (post : X → List Assn) : Exit → Act → World → Prop :=
  bodyPostM Fence.wide 0 P fn fun e w' => ∃ x h', R x ∧ e = .returned (rt x) ∧ Stars (post x) h' ∧ Sub h' w' ∧ Fr h0 w0 h' w'

def slots : Nat → List Value → List (Nat × Value)
  | _, [] => []
  | k, v :: l => (k, v) :: slots (k + 1) l

theorem slots_get : ∀ (l : List Value) (k i : Nat), ext (slots k l) (fun _ => undef) (k + i) = l.getD i undef := by
  intro l
  induction l with
  | nil => intro k i; simp [slots, ext]
  | cons v l ih =>
    intro k i
    rw [slots, ext_cons]
    show (if k + i = k then v else _) = _
    cases i with
    | zero => simp
    | succ i =>
      rw [if_neg (by omega)]
      have := ih (k + 1) i
      rw [show k + (i + 1) = k + 1 + i by omega, this]
      simp

theorem Fn.mk' {P : Program} {f : FuncId} {fn : Func} {c : Code} {args : List Value} {pre : List Assn} {X : Type} {R : X → Prop} {rt : X → Value} {post : X → List Assn} {n : Nat} {l : List (Nat × Value)}
    (hf : P.funcs[f]? = some fn) (hname : (fn.name == "runtime.NumGoroutine") = false) (hb : fn.body = some c) (hn : fn.ntmps = n) (hlen : args.length ≤ n) (hl : slots 0 args = l)
    (h : ∀ h0 w0, J P ⟨n, none, [], h0, w0⟩ c (RetQ P fn h0 w0 R rt post) (ext l fun _ => undef) pre) : Fn P f args pre R rt post := by
  refine ⟨⟨fn, hf, hname, by rw [hb]; rfl⟩, fun w h0 s b => (callsIn_wide (n := 0)).1 (callsIn_of_wp_marks hf hb trivial ?_)⟩
  have he : ({ tmps := args.toArray ++ Array.replicate (fn.ntmps - args.toArray.size) undef, defers := [] } : Act) = act n [] (ext l fun _ => undef) := by
    subst hl hn
    unfold act
    simp only [Act.mk.injEq, and_true]
    apply Array.ext
    · simp; omega
    · intro i h1 h2
      have hg := slots_get args 0 i
      rw [Nat.zero_add] at hg
      rw [Array.getElem_ofFn, hg, Array.getElem_append]
      split
      · rename_i hlt
        simp at hlt
        simp [hlt]
      · rename_i hlt
        simp at hlt
        simp [Nat.not_lt.2 hlt]
  rw [he]
  exact h h0 w w (Inv.start pre s b)

/-- A function's result variables. -/
def ResV (P : Program) (C : Cx) (fn : Func) (ρ : Env) (hs : List Assn) (v : Value) : Prop := ∀ w, C.inv hs w → (results fn (C.act ρ).tmps).run P w = .ok v w

theorem getD_act {n ds ρ t v} (h : Ev n ρ (.tmp t) v) : (act n ds ρ).tmps.getD t undef = v := h ds

theorem ResV.nores {P C fn ρ hs} (h : fn.results = #[]) : ResV P C fn ρ hs (.tuple #[]) := fun w _ => by simp [results, h]
theorem ResV.one {P C fn ρ hs t v} (h : fn.results = #[.tmp t]) (hv : Ev C.n ρ (.tmp t) v) : ResV P C fn ρ hs v := fun w _ => by
  have := getD_act (ds := C.ds) hv
  simp only [Array.getD_eq_getD_getElem?] at this
  simp [results, h, this]
theorem ResV.two {P C fn ρ hs t u v x} (h : fn.results = #[.tmp t, .tmp u]) (hv : Ev C.n ρ (.tmp t) v) (hx : Ev C.n ρ (.tmp u) x) : ResV P C fn ρ hs (.tuple #[v, x]) := fun w _ => by
  have h1 := getD_act (ds := C.ds) hv
  have h2 := getD_act (ds := C.ds) hx
  simp only [Array.getD_eq_getD_getElem?] at h1 h2
  simp [results, h, h1, h2]
theorem ResV.three {P C fn ρ hs t u s v x y} (h : fn.results = #[.tmp t, .tmp u, .tmp s]) (hv : Ev C.n ρ (.tmp t) v) (hx : Ev C.n ρ (.tmp u) x) (hy : Ev C.n ρ (.tmp s) y) : ResV P C fn ρ hs (.tuple #[v, x, y]) := fun w _ => by
  have h1 := getD_act (ds := C.ds) hv
  have h2 := getD_act (ds := C.ds) hx
  have h3 := getD_act (ds := C.ds) hy
  simp only [Array.getD_eq_getD_getElem?] at h1 h2 h3
  simp [results, h, h1, h2, h3]

section
variable {P : Program} {fn : Func} {X : Type} {R : X → Prop} {rt : X → Value} {post : X → List Assn} {C : Cx} {ρ : Env} {hs : List Assn}

theorem At.ret {n h0 w0 v} (x : X) (hR : R x) (hres : ResV P ⟨n, none, [], h0, w0⟩ fn ρ hs v) (hv : v = rt x) (hpost : ∀ h, Stars hs h → Stars (post x) h) :
    At ⟨n, none, [], h0, w0⟩ (RetQ P fn h0 w0 R rt post) .ret ρ hs := by
  intro w hi
  obtain ⟨h, s, b, f⟩ := id hi
  exact ⟨v, hres w hi, x, h, hR, by rw [hv], hpost h s, b, f⟩
theorem At.retN {n h0 w0 v} (x : X) (hR : R x) (hres : ResV P ⟨n, none, [], h0, w0⟩ fn ρ hs v) (hv : v = rt x) (hpost : ∀ h, Stars hs h → Stars (post x) h) :
    At ⟨n, none, [], h0, w0⟩ (RetQ P fn h0 w0 R rt post) .normal ρ hs := At.ret (fn := fn) x hR hres hv hpost

end

theorem run_callFunc {P : Program} {f : FuncId} (h : Ent P f) (args : Array Value) (w : World) : (callFunc f args).run P w = .ok (.enter f args) w := by
  obtain ⟨fn, a, b, c⟩ := h
  simp only [callFunc, Sem.run_bind, program, Sem.run, Result.andThen, a, b, c]
  rfl

section
variable {P : Program} {C : Cx} {hs : List Assn} {ρ : Env} {d : Option Tmp} {ty : TypeId} {pos : String} {af : Array Edge} {g : Option (Nat × Bool)} {K : Value → List Assn → Prop}

/-- A call by a contract; `Sel` finds what the callee needs. -/
theorem Ef.of_calls {f : FuncId} {args : List Value} {o : Oper} (hrun : ∀ w, (o.semAt C.r (C.act ρ).eval).run P w = .ok (.enter f args.toArray) w)
    {pre rest : List Assn} {X : Type} {R : X → Prop} {rt : X → Value} {post : X → List Assn} (hc : Fn P f args pre R rt post) (sel : Sel pre hs rest)
    (k : ∀ x, R x → K (rt x) (post x ++ rest)) : Ef P C hs ρ o K := fun w hi => by
  obtain ⟨h1, s1, b1, fr⟩ := Inv.split (hi.perm sel.perm)
  refine .inr (.inl ⟨f, args.toArray, w, hrun w, (hc.calls w h1 s1 b1).mono ?_⟩)
  rintro e w' ⟨x, h', hR, rfl, s', b', f'⟩
  exact ⟨rt x, post x ++ rest, rfl, fr h' w' (post x) s' b' f', k x hR⟩

theorem run_callv {f : FuncId} {first cap : Array Value} {args : List Value} {x : Operand} {xs : List Operand} {ats : Array TypeId} (he : Ent P f) (hx : Ev C.n ρ x (.func (.func f) first cap)) (ha : EvL C.n ρ xs args) (w : World) :
    (({ dst := d, op := .call { callee := .value x, args := xs.toArray, argTypes := ats }, type := ty, pos := pos, after := af, guard := g } : Oper).semAt C.r (C.act ρ).eval).run P w = .ok (.enter f (first ++ args.toArray ++ cap)) w := by
  rw [Oper.semAt_eq _ _ _ (fun c h => by cases h)]
  have h1 := hx C.ds
  have h2 := ha.map C.ds
  simp only [execOp, resolve, h1, h2, Deferred.ofValue]
  simp only [Sem.run_bind, Sem.run_pure, Result.andThen, invoke, run_callFunc he]

theorem Ef.call {f : FuncId} {args : List Value} {xs : List Operand} {ats : Array TypeId} {pre rest : List Assn} {X : Type} {R : X → Prop} {rt : X → Value} {post : X → List Assn}
    (ha : EvL C.n ρ xs args) (hc : Fn P f args pre R rt post) (sel : Sel pre hs rest) (k : ∀ x, R x → K (rt x) (post x ++ rest)) :
    Ef P C hs ρ ⟨d, .call { callee := .value (.func f), args := xs.toArray, argTypes := ats }, ty, pos, af, g⟩ K :=
  Ef.of_calls (args := args) (fun w => by rw [run_callv hc.ent Ev.f ha w]; simp) hc sel k

/-- A call of a function value: a function and what it has captured. -/
theorem Ef.callv {x : Operand} {f : FuncId} {cap : List Value} {args : List Value} {xs : List Operand} {ats : Array TypeId} {pre rest : List Assn} {X : Type} {R : X → Prop} {rt : X → Value} {post : X → List Assn}
    (hx : Ev C.n ρ x (.func (.func f) #[] cap.toArray)) (ha : EvL C.n ρ xs args) (hc : Fn P f (args ++ cap) pre R rt post) (sel : Sel pre hs rest) (k : ∀ x, R x → K (rt x) (post x ++ rest)) :
    Ef P C hs ρ ⟨d, .call { callee := .value x, args := xs.toArray, argTypes := ats }, ty, pos, af, g⟩ K :=
  Ef.of_calls (args := args ++ cap) (fun w => by rw [run_callv hc.ent hx ha w]; simp) hc sel k
end

end Go.Proofs.YtbhladkbnleeoaaGreat

namespace Go.Proofs.YtbhladkbnleeoaaGreat

section
variable {P : Program} {C : Cx} {hs : List Assn} {ρ : Env} {d : Option Tmp} {ty : TypeId} {pos : String} {af : Array Edge} {g : Option (Nat × Bool)} {K : Value → List Assn → Prop}
  {x y z : Operand} {v u : Value} {t : TypeId}

theorem Rd.ex {op : Op} (hnd : ∀ c, op ≠ .defer c) (s : Sem Value) (he : ∀ ds, execOp (act C.n ds ρ).eval ⟨d, op, ty, pos, af, g⟩ = (do pure (.value (← s)))) (h : ∀ w, C.inv hs w → s.run P w = .ok v w) :
    Rd P C hs ρ ⟨d, op, ty, pos, af, g⟩ v :=
  Rd.of hnd fun w hi => by
    show (execOp (act C.n C.ds ρ).eval _).run P w = _
    rw [he, Sem.run_bind, h w hi]; rfl

theorem Ef.ex {op : Op} (hnd : ∀ c, op ≠ .defer c) (s : Sem Value) (he : ∀ ds, execOp (act C.n ds ρ).eval ⟨d, op, ty, pos, af, g⟩ = (do pure (.value (← s))))
    (h : ∀ w, C.inv hs w → ∃ v w' hs', s.run P w = .ok v w' ∧ C.inv hs' w' ∧ K v hs') : Ef P C hs ρ ⟨d, op, ty, pos, af, g⟩ K := fun w hi => by
  obtain ⟨v, w', hs', a, b, c⟩ := h w hi
  refine .inl ⟨v, hs', w', .inl ?_, b, c⟩
  rw [Oper.semAt_eq _ _ _ hnd]
  show (execOp (act C.n C.ds ρ).eval _).run P w = _
  rw [he, Sem.run_bind, a]; rfl

theorem Ef.ex0 {op : Op} (hnd : ∀ c, op ≠ .defer c) (s : Sem Unit) (he : ∀ ds, execOp (act C.n ds ρ).eval ⟨d, op, ty, pos, af, g⟩ = (do s; pure .skip))
    (h : ∀ w, C.inv hs w → ∃ w' hs', s.run P w = .ok () w' ∧ C.inv hs' w' ∧ K undef hs') : Ef P C hs ρ ⟨d, op, ty, pos, af, g⟩ K := fun w hi => by
  obtain ⟨w', hs', a, b, c⟩ := h w hi
  refine .inl ⟨undef, hs', w', .inr ⟨?_, rfl⟩, b, c⟩
  rw [Oper.semAt_eq _ _ _ hnd]
  show (execOp (act C.n C.ds ρ).eval _).run P w = _
  rw [he, Sem.run_bind, a]; rfl

/-! ### moves, tests -/
theorem Rd.move (h : Ev C.n ρ x v) : Rd P C hs ρ ⟨d, .move x, ty, pos, af, g⟩ v := Rd.of (fun c h => by cases h) fun w _ => by
  show (execOp (act C.n C.ds ρ).eval _).run P w = _
  simp only [execOp, h C.ds]; rfl
theorem Rd.assign (h : Ev C.n ρ x v) : Rd P C hs ρ ⟨d, .assign x, ty, pos, af, g⟩ v := Rd.of (fun c h => by cases h) fun w _ => by
  show (execOp (act C.n C.ds ρ).eval _).run P w = _
  simp only [execOp, h C.ds]; rfl
theorem Rd.pickT (hc : Ev C.n ρ x (.bool true)) (h : Ev C.n ρ y v) : Rd P C hs ρ ⟨d, .pick x y z, ty, pos, af, g⟩ v := Rd.of (fun c h => by cases h) fun w _ => by
  show (execOp (act C.n C.ds ρ).eval _).run P w = _
  simp only [execOp, h C.ds, hc C.ds]; rfl
theorem Rd.pickF (hc : Ev C.n ρ x (.bool false)) (h : Ev C.n ρ z v) : Rd P C hs ρ ⟨d, .pick x y z, ty, pos, af, g⟩ v := Rd.of (fun c h => by cases h) fun w _ => by
  show (execOp (act C.n C.ds ρ).eval _).run P w = _
  simp only [execOp, h C.ds, hc C.ds]; rfl
theorem Rd.nil {a : Addr} (h : Ev C.n ρ x (.pointer (some a))) : Rd P C hs ρ ⟨d, .nilCheck x, ty, pos, af, g⟩ (.pointer (some a)) := Rd.of (fun c h => by cases h) fun w _ => by
  show (execOp (act C.n C.ds ρ).eval _).run P w = _
  simp only [execOp, h C.ds]; rfl
theorem Rd.not {b : Bool} (h : Ev C.n ρ x (.bool b)) : Rd P C hs ρ ⟨d, .unOp .not t x, ty, pos, af, g⟩ (.bool !b) :=
  Rd.ex (fun c h => by cases h) (Op.unary .not (.bool b)) (fun ds => by simp only [execOp, h ds]) (fun w _ => rfl)
theorem Rd.notD {p : Prop} [Decidable p] (h : Ev C.n ρ x (.bool (decide p))) : Rd P C hs ρ ⟨d, .unOp .not t x, ty, pos, af, g⟩ (.bool (decide (¬ p))) := by
  have := Rd.not (P := P) (C := C) (hs := hs) (d := d) (ty := ty) (pos := pos) (af := af) (g := g) (t := t) h
  rwa [← decide_not] at this

/-! ### integers -/
theorem Rd.bin {op : BinOp} {k k' : IntKind} {a b : Int} {t' : TypeId} (h1 : Ev C.n ρ x (.int k a)) (h2 : Ev C.n ρ y (.int k' b)) (hr : ∀ w, (binOp op t (.int k a) (.int k' b)).run P w = .ok v w) :
    Rd P C hs ρ ⟨d, .binOp op t x y t', ty, pos, af, g⟩ v :=
  Rd.ex (fun c h => by cases h) (do eqGuard op t x y (.int k a) (.int k' b); binOp op t (.int k a) (.int k' b)) (fun ds => by simp only [execOp, h1 ds, h2 ds])
    (fun w _ => by
      have : (eqGuard op t x y (.int k a) (.int k' b)).run P w = .ok () w := by unfold eqGuard; cases op <;> rfl
      rw [Sem.run_bind, this]; exact hr w)

theorem Rd.add {k : IntKind} {a b : Int} {t' : TypeId} (h1 : Ev C.n ρ x (.int k a)) (h2 : Ev C.n ρ y (.int k b)) (hw : k.wrap (a + b) = a + b) :
    Rd P C hs ρ ⟨d, .binOp .add t x y t', ty, pos, af, g⟩ (.int k (a + b)) := Rd.bin h1 h2 fun w => by simp [binOp, Op.intArith, hw]
theorem Rd.sub {k : IntKind} {a b : Int} {t' : TypeId} (h1 : Ev C.n ρ x (.int k a)) (h2 : Ev C.n ρ y (.int k b)) (hw : k.wrap (a - b) = a - b) :
    Rd P C hs ρ ⟨d, .binOp .sub t x y t', ty, pos, af, g⟩ (.int k (a - b)) := Rd.bin h1 h2 fun w => by simp [binOp, Op.intArith, hw]
theorem Rd.mul {k : IntKind} {a b : Int} {t' : TypeId} (h1 : Ev C.n ρ x (.int k a)) (h2 : Ev C.n ρ y (.int k b)) (hw : k.wrap (a * b) = a * b) :
    Rd P C hs ρ ⟨d, .binOp .mul t x y t', ty, pos, af, g⟩ (.int k (a * b)) := Rd.bin h1 h2 fun w => by simp [binOp, Op.intArith, hw]
theorem Rd.lss {k : IntKind} {a b : Int} {t' : TypeId} (h1 : Ev C.n ρ x (.int k a)) (h2 : Ev C.n ρ y (.int k b)) :
    Rd P C hs ρ ⟨d, .binOp .lss t x y t', ty, pos, af, g⟩ (.bool (decide (a < b))) := Rd.bin h1 h2 fun w => by simp [binOp, Op.intCmp]
theorem Rd.leq {k : IntKind} {a b : Int} {t' : TypeId} (h1 : Ev C.n ρ x (.int k a)) (h2 : Ev C.n ρ y (.int k b)) :
    Rd P C hs ρ ⟨d, .binOp .leq t x y t', ty, pos, af, g⟩ (.bool (decide (a ≤ b))) := Rd.bin h1 h2 fun w => by simp [binOp, Op.intCmp]
theorem Rd.gtr {k : IntKind} {a b : Int} {t' : TypeId} (h1 : Ev C.n ρ x (.int k a)) (h2 : Ev C.n ρ y (.int k b)) :
    Rd P C hs ρ ⟨d, .binOp .gtr t x y t', ty, pos, af, g⟩ (.bool (decide (b < a))) := Rd.bin h1 h2 fun w => by simp [binOp, Op.intCmp]
theorem Rd.geq {k : IntKind} {a b : Int} {t' : TypeId} (h1 : Ev C.n ρ x (.int k a)) (h2 : Ev C.n ρ y (.int k b)) :
    Rd P C hs ρ ⟨d, .binOp .geq t x y t', ty, pos, af, g⟩ (.bool (decide (b ≤ a))) := Rd.bin h1 h2 fun w => by simp [binOp, Op.intCmp]
theorem Rd.eql {k : IntKind} {a b : Int} {t' : TypeId} (h1 : Ev C.n ρ x (.int k a)) (h2 : Ev C.n ρ y (.int k b)) :
    Rd P C hs ρ ⟨d, .binOp .eql t x y t', ty, pos, af, g⟩ (.bool (decide (a = b))) := Rd.bin h1 h2 fun w => by
  simp only [binOp, Op.intCmp, ne_eq, not_true_eq_false, if_false]; rfl
theorem Rd.neq {k : IntKind} {a b : Int} {t' : TypeId} (h1 : Ev C.n ρ x (.int k a)) (h2 : Ev C.n ρ y (.int k b)) :
    Rd P C hs ρ ⟨d, .binOp .neq t x y t', ty, pos, af, g⟩ (.bool (decide (a ≠ b))) := Rd.bin h1 h2 fun w => by
  have : (a != b) = decide (a ≠ b) := by
    rw [bne, decide_not]; rfl
  simp [binOp, Op.intCmp, this]
theorem Rd.conv {k k' : IntKind} {a : Int} {t' : TypeId} (h : Ev C.n ρ x (.int k a)) (hs' : ∀ w, ∃ dsc, (underlying t).run P w = .ok dsc w) (hu : ∀ w, (underlying t').run P w = .ok (.int k') w) (hw : k'.wrap a = a) :
    Rd P C hs ρ ⟨d, .convert t t' x, ty, pos, af, g⟩ (.int k' a) :=
  Rd.ex (fun c h => by cases h) (convert t t' (.int k a)) (fun ds => by simp only [execOp, h ds]) fun w _ => by
    obtain ⟨dsc, hd⟩ := hs' w
    simp only [convert, Sem.run_bind, hd, hu w, Result.andThen]
    simp only [Conv.intToInt, hw]; rfl
theorem Rd.convW {k k' : IntKind} {a : Int} {t' : TypeId} (h : Ev C.n ρ x (.int k a)) (hs' : ∀ w, ∃ dsc, (underlying t).run P w = .ok dsc w) (hu : ∀ w, (underlying t').run P w = .ok (.int k') w) :
    Rd P C hs ρ ⟨d, .convert t t' x, ty, pos, af, g⟩ (.int k' (k'.wrap a)) :=
  Rd.ex (fun c h => by cases h) (convert t t' (.int k a)) (fun ds => by simp only [execOp, h ds]) fun w _ => by
    obtain ⟨dsc, hd⟩ := hs' w
    simp only [convert, Sem.run_bind, hd, hu w, Result.andThen]
    simp only [Conv.intToInt]; rfl

/-! ### '==' in general: what eqGuard lets by -/
theorem Rd.cmp {op : BinOp} {t' : TypeId} (h1 : Ev C.n ρ x v) (h2 : Ev C.n ρ y u) (hg : ∀ w, (eqGuard op t x y v u).run P w = .ok () w) {r : Value} (hr : ∀ w, C.inv hs w → (binOp op t v u).run P w = .ok r w) :
    Rd P C hs ρ ⟨d, .binOp op t x y t', ty, pos, af, g⟩ r :=
  Rd.ex (fun c h => by cases h) (do eqGuard op t x y v u; binOp op t v u) (fun ds => by simp only [execOp, h1 ds, h2 ds]) (fun w hi => by rw [Sem.run_bind, hg w]; exact hr w hi)

theorem run_equal_nil {e : TypeId} {p : Option Addr} (hu : ∀ w, (underlying t).run P w = .ok (.pointer e) w) {w : World} : (Op.equal t (.pointer p) (.pointer none)).run P w = .ok p.isNone w := by
  show (Op.equalIn (9999 + 1) t (.pointer p) (.pointer none)).run P w = _
  unfold Op.equalIn
  rw [Sem.run_bind, hu w]
  cases p <;> rfl

/-- A pointer against nil. -/
theorem Rd.eqlNil {t' e : TypeId} {p : Option Addr} (h1 : Ev C.n ρ x (.pointer p)) (hu : ∀ w, (underlying t).run P w = .ok (.pointer e) w) :
    Rd P C hs ρ ⟨d, .binOp .eql t x (.const (.pointer none)) t', ty, pos, af, g⟩ (.bool p.isNone) := by
  refine Rd.cmp h1 Ev.c (fun w => by unfold eqGuard; rfl) fun w _ => ?_
  show (do pure (Value.bool (← Op.equal t (.pointer p) (.pointer none))) : Sem Value).run P w = _
  rw [Sem.run_bind, run_equal_nil hu]; rfl
theorem Rd.neqNil {t' e : TypeId} {p : Option Addr} (h1 : Ev C.n ρ x (.pointer p)) (hu : ∀ w, (underlying t).run P w = .ok (.pointer e) w) :
    Rd P C hs ρ ⟨d, .binOp .neq t x (.const (.pointer none)) t', ty, pos, af, g⟩ (.bool !p.isNone) := by
  refine Rd.cmp h1 Ev.c (fun w => by unfold eqGuard; rfl) fun w _ => ?_
  show (do pure (Value.bool (!(← Op.equal t (.pointer p) (.pointer none)))) : Sem Value).run P w = _
  rw [Sem.run_bind, run_equal_nil hu]; rfl

/-! ### strings -/
theorem Rd.str2 {op : BinOp} {t' : TypeId} {a b : ByteArray} (h1 : Ev C.n ρ x (.string a)) (h2 : Ev C.n ρ y (.string b)) (hr : ∀ w, (Op.stringOp op a b).run P w = .ok v w) :
    Rd P C hs ρ ⟨d, .binOp op t x y t', ty, pos, af, g⟩ v := by
  refine Rd.cmp h1 h2 (fun w => by unfold eqGuard; cases op <;> rfl) fun w _ => ?_
  have : binOp op t (.string a) (.string b) = Op.stringOp op a b := by cases op <;> rfl
  rw [this]; exact hr w

/-! ### addresses -/
def Fld (P : Program) (s : TypeId) (i o : Nat) : Prop := ∀ a w, (Instr.fieldAt s (.pointer (some a)) i).run P w = .ok (.pointer (some (a.add o))) w
theorem add_zero_off (b o : Nat) : (⟨b, 0, none⟩ : Addr).add o = ⟨b, o, none⟩ := by
  unfold Addr.add; split
  · rename_i h; rw [h]
  · simp
theorem add_off (b k o : Nat) : (⟨b, k, none⟩ : Addr).add o = ⟨b, k + o, none⟩ := by
  unfold Addr.add; split
  · rename_i h; rw [h]; rfl
  · rfl
theorem Rd.fld0 {i b o : Nat} (hf : Fld P t i o) (h : Ev C.n ρ x (.pointer (some ⟨b, 0, none⟩))) : Rd P C hs ρ ⟨d, .fieldAddr t x i, ty, pos, af, g⟩ (.pointer (some ⟨b, o, none⟩)) :=
  Rd.ex (fun c h => by cases h) (Instr.fieldAt t (.pointer (some ⟨b, 0, none⟩)) i) (fun ds => by simp only [execOp, h ds]) fun w _ => by rw [hf, add_zero_off]
theorem Rd.fldz {i b k : Nat} (hf : Fld P t i 0) (h : Ev C.n ρ x (.pointer (some ⟨b, k, none⟩))) : Rd P C hs ρ ⟨d, .fieldAddr t x i, ty, pos, af, g⟩ (.pointer (some ⟨b, k, none⟩)) :=
  Rd.ex (fun c h => by cases h) (Instr.fieldAt t (.pointer (some ⟨b, k, none⟩)) i) (fun ds => by simp only [execOp, h ds]) fun w _ => by rw [hf]; rfl
theorem Rd.fld {i b k o : Nat} (hf : Fld P t i o) (h : Ev C.n ρ x (.pointer (some ⟨b, k, none⟩))) : Rd P C hs ρ ⟨d, .fieldAddr t x i, ty, pos, af, g⟩ (.pointer (some ⟨b, k + o, none⟩)) :=
  Rd.ex (fun c h => by cases h) (Instr.fieldAt t (.pointer (some ⟨b, k, none⟩)) i) (fun ds => by simp only [execOp, h ds]) fun w _ => by rw [hf, add_off]

/-! ### memory -/
theorem cell_of {w : World} {b off : Nat} {cs : List Value} {e : TypeId} {fr : Nat × Nat} (h : w.heap[b]? = some (.cells cs.toArray e fr)) : w.cell? ⟨b, off, none⟩ = cs[off]? := by
  simp [World.cell?, h]

theorem Rd.ld {b off : Nat} {cs : List Value} {e : TypeId} {fr : Nat × Nat} (ht : ∀ w, (isAgg t).run P w = .ok false w) (h : Ev C.n ρ x (.pointer (some ⟨b, off, none⟩)))
    (hb : Blk b (.cells cs.toArray e fr) hs) (hv : cs[off]? = some v) : Rd P C hs ρ ⟨d, .load t x, ty, pos, af, g⟩ v :=
  Rd.ex (fun c h => by cases h) (Instr.loadAt t (.pointer (some ⟨b, off, none⟩))) (fun ds => by simp only [execOp, h ds]) fun w hi => by
    have hc : w.cell? ⟨b, off, none⟩ = some v := (cell_of (hb.inv hi)).trans hv
    simp only [Instr.loadAt, Instr.sureAddr, loadVar, Sem.run_bind, Sem.run_pure, ht w, Result.andThen]
    simp [load, Sem.run, hc]

theorem Rd.ldN {b off : Nat} {cs : List Value} {e : TypeId} {fr : Nat × Nat} (ht : ∀ w, (isAgg t).run P w = .ok false w) (h : Ev C.n ρ x (.pointer (some ⟨b, off, none⟩)))
    (hb : Blk b (.cells cs.toArray e fr) hs) (hv : Nth off cs v) : Rd P C hs ρ ⟨d, .load t x, ty, pos, af, g⟩ v := Rd.ld ht h hb hv.get

theorem run_loadRow {w : World} {b off s : Nat} {cs vs : List Value} {e : TypeId} {fr : Nat × Nat} (hb : w.heap[b]? = some (.cells cs.toArray e fr)) (hv : (cs.drop off).take s = vs) (hl : vs.length = s) :
    (loadCells ⟨b, off, none⟩ s).run P w = .ok vs.toArray w := by
  have := run_loadCells_list (P := P) w ⟨b, off, none⟩ vs (fun j v hj => by
    rw [add_off, cell_of hb]
    have hj' : j < s := by rw [← hl]; exact (List.getElem?_eq_some_iff.1 hj).1
    rw [← hv, List.getElem?_take_of_lt hj', List.getElem?_drop] at hj
    exact hj)
  rw [hl] at this
  exact this

theorem Rd.ldA {b off s : Nat} {cs vs : List Value} {e : TypeId} {fr : Nat × Nat} (ht : ∀ w, (isAgg t).run P w = .ok true w) (hz : ∀ w, (sizeOf t).run P w = .ok s w) (h : Ev C.n ρ x (.pointer (some ⟨b, off, none⟩)))
    (hb : Blk b (.cells cs.toArray e fr) hs) (hv : (cs.drop off).take s = vs) (hl : vs.length = s) : Rd P C hs ρ ⟨d, .load t x, ty, pos, af, g⟩ (.agg vs.toArray) :=
  Rd.ex (fun c h => by cases h) (Instr.loadAt t (.pointer (some ⟨b, off, none⟩))) (fun ds => by simp only [execOp, h ds]) fun w hi => by
    simp only [Instr.loadAt, Instr.sureAddr, loadVar, Sem.run_bind, Sem.run_pure, ht w, hz w, Result.andThen, if_true, run_loadRow (hb.inv hi) hv hl]

/-- A whole block. -/
theorem Rd.ldB {b s : Nat} {cs : List Value} {e : TypeId} {fr : Nat × Nat} (ht : ∀ w, (isAgg t).run P w = .ok true w) (hz : ∀ w, (sizeOf t).run P w = .ok s w) (h : Ev C.n ρ x (.pointer (some ⟨b, 0, none⟩)))
    (hb : Blk b (.cells cs.toArray e fr) hs) (hl : cs.length = s) : Rd P C hs ρ ⟨d, .load t x, ty, pos, af, g⟩ (.agg cs.toArray) :=
  Rd.ldA ht hz h hb (by rw [List.drop_zero, ← hl, List.take_length]) hl

theorem frozen_of {w : World} {b off : Nat} {cs : Array Value} {e : TypeId} {lo hi : Nat} (h : w.heap[b]? = some (.cells cs e (lo, hi))) (hf : (decide (lo ≤ off) && decide (off < hi)) = false) : w.frozen? ⟨b, off, none⟩ = false := by
  simp only [World.frozen?, h]
  exact hf

theorem setCell_setBlk {w : World} {b off : Nat} {cs : Array Value} {e : TypeId} {fr : Nat × Nat} (v : Value) (h : w.heap[b]? = some (.cells cs e fr)) :
    w.setCell ⟨b, off, none⟩ v = setBlk w b (.cells (cs.setIfInBounds off v) e fr) := by
  have hlt : b < w.heap.size := (Array.getElem?_eq_some_iff.1 h).1
  have hget : w.heap[b] = .cells cs e fr := (Array.getElem?_eq_some_iff.1 h).2
  unfold World.setCell setBlk
  congr 1
  apply Array.ext
  · simp
  · intro i h1 h2
    rw [Array.getElem_modify, Array.getElem_setIfInBounds]
    · by_cases hb : b = i
      · subst hb; simp [hget]
      · simp [hb]
    · simpa using h1

theorem run_store1 {w : World} {b off : Nat} {cs : List Value} {e : TypeId} {lo hi : Nat} (h : w.heap[b]? = some (.cells cs.toArray e (lo, hi))) (hf : (decide (lo ≤ off) && decide (off < hi)) = false) (ho : off < cs.length)
    (hv : v.oneCell' = true) : (store ⟨b, off, none⟩ v).run P w = .ok () (setBlk w b (.cells (cs.set off v).toArray e (lo, hi))) := by
  have hc : w.cell? ⟨b, off, none⟩ = some cs[off] := by rw [cell_of h]; simp [ho]
  have := setCell_setBlk (off := off) v h
  simp only [List.setIfInBounds_toArray] at this
  cases v <;> first | (simp only [store, Sem.run, hc, frozen_of h hf, this]; rfl) | (exact absurd hv (by simp [Value.oneCell']))

theorem heap_setBlk {w : World} {b : Nat} {o : Obj} (h : b < w.heap.size) : (setBlk w b o).heap[b]? = some o := by simp [setBlk, h]
theorem setBlk_setBlk (w : World) (b : Nat) (o o' : Obj) : setBlk (setBlk w b o) b o' = setBlk w b o' := by simp [setBlk]
theorem setBlk_same {w : World} {b : Nat} {o : Obj} (h : w.heap[b]? = some o) : setBlk w b o = w := by
  obtain ⟨hlt, he⟩ := Array.getElem?_eq_some_iff.1 h
  unfold setBlk
  have : w.heap.setIfInBounds b o = w.heap := by
    apply Array.ext
    · simp
    · intro i h1 h2
      rw [Array.getElem_setIfInBounds]
      · split
        · rename_i hb; subst hb; exact he.symm
        · rfl
  rw [this]

/-- Cells vs in place of those from off on. -/
def splice (cs : List Value) (off : Nat) (vs : List Value) : List Value := cs.take off ++ vs ++ cs.drop (off + vs.length)

theorem run_storeRow : ∀ (vs : List Value) {w : World} {b off i : Nat} {cs : List Value} {e : TypeId} {lo hi : Nat}, w.heap[b]? = some (.cells cs.toArray e (lo, hi)) → (hi ≤ off + i ∨ hi ≤ lo ∨ off + i + vs.length ≤ lo) →
    off + i + vs.length ≤ cs.length → (∀ v ∈ vs, v.oneCell' = true) →
    (storeCells ⟨b, off, none⟩ vs i).run P w = .ok () (setBlk w b (.cells (splice cs (off + i) vs).toArray e (lo, hi))) := by
  intro vs
  induction vs with
  | nil =>
    intro w b off i cs e lo hi h _ _ _
    have : splice cs (off + i) [] = cs := by simp [splice]
    rw [this, setBlk_same h]; rfl
  | cons v vs ih =>
    intro w b off i cs e lo hi h hf hl hv
    simp only [List.length_cons] at hf hl
    have hlt : b < w.heap.size := (Array.getElem?_eq_some_iff.1 h).1
    have hf' : (decide (lo ≤ off + i) && decide (off + i < hi)) = false := by
      simp only [Bool.and_eq_false_iff, decide_eq_false_iff_not]; omega
    have h1 := run_store1 (P := P) (off := off + i) (v := v) h hf' (by omega) (hv v (List.mem_cons_self ..))
    simp only [storeCells, add_off, Sem.run_bind, h1, Result.andThen]
    have h2 := ih (w := setBlk w b (.cells (cs.set (off + i) v).toArray e (lo, hi))) (b := b) (off := off) (i := i + 1) (cs := cs.set (off + i) v) (e := e) (lo := lo) (hi := hi) (heap_setBlk hlt) (by omega) (by simp; omega) (fun u hu => hv u (List.mem_cons_of_mem _ hu))
    rw [h2, setBlk_setBlk]
    congr 3
    simp only [splice, List.length_cons]
    have e1 : List.take (off + (i + 1)) (cs.set (off + i) v) = List.take (off + i) cs ++ [v] := by
      rw [show off + (i + 1) = off + i + 1 by omega, List.take_succ_eq_append_getElem (by simp; omega)]
      simp [List.take_set_of_le]
    rw [e1, show off + (i + 1) + vs.length = off + i + (vs.length + 1) by omega, List.drop_set_of_lt (by omega)]
    simp

theorem Ef.st {b off : Nat} {cs cs' : List Value} {e : TypeId} {lo hi : Nat} {hs' : List Assn} (hz : ∀ w, (sizeOf t).run P w = .ok 1 w) (h : Ev C.n ρ x (.pointer (some ⟨b, off, none⟩))) (hy : Ev C.n ρ y v) (hv : v.oneCell' = true)
    (hr : Rep (pts b (.cells cs.toArray e (lo, hi))) (pts b (.cells cs'.toArray e (lo, hi))) hs hs') (hb : Blk b (.cells cs.toArray e (lo, hi)) hs) (hset : SetN off v cs cs') (hf : (decide (lo ≤ off) && decide (off < hi)) = false) (k : K undef hs') :
    Ef P C hs ρ ⟨d, .store t x y, ty, pos, af, g⟩ K :=
  Ef.ex0 (fun c h => by cases h) (Instr.storeAt t (.pointer (some ⟨b, off, none⟩)) v) (fun ds => by simp only [execOp, h ds, hy ds]) fun w hi' => by
    obtain ⟨rfl, hlt⟩ := hset.eq
    refine ⟨_, hs', ?_, hi'.upd hr, k⟩
    have hcells : v.cells = #[v] := by cases v <;> first | rfl | exact absurd hv (by simp [Value.oneCell'])
    have h1 := run_store1 (P := P) (off := off) (v := v) (hb.inv hi') hf hlt hv
    simp only [Instr.storeAt, Instr.sureAddr, storeVar, Sem.run_bind, Sem.run_pure, hz w, Result.andThen, hcells]
    simp [storeCells, Addr.add, h1]

theorem Ef.stA {b off s : Nat} {cs vs : List Value} {e : TypeId} {lo hi : Nat} {hs' : List Assn} (hz : ∀ w, (sizeOf t).run P w = .ok s w) (h : Ev C.n ρ x (.pointer (some ⟨b, off, none⟩))) (hy : Ev C.n ρ y (.agg vs.toArray)) (hs1 : vs.length = s)
    (hv : ∀ v ∈ vs, v.oneCell' = true)
    (hr : Rep (pts b (.cells cs.toArray e (lo, hi))) (pts b (.cells (splice cs off vs).toArray e (lo, hi))) hs hs') (hb : Blk b (.cells cs.toArray e (lo, hi)) hs) (hl : off + vs.length ≤ cs.length) (hf : hi ≤ off ∨ hi ≤ lo ∨ off + vs.length ≤ lo) (k : K undef hs') :
    Ef P C hs ρ ⟨d, .store t x y, ty, pos, af, g⟩ K :=
  Ef.ex0 (fun c h => by cases h) (Instr.storeAt t (.pointer (some ⟨b, off, none⟩)) (.agg vs.toArray)) (fun ds => by simp only [execOp, h ds, hy ds]) fun w hi' => by
    refine ⟨_, hs', ?_, hi'.upd hr, k⟩
    have h1 := run_storeRow (P := P) vs (i := 0) (hb.inv hi') (by simpa using hf) (by simpa using hl) hv
    simp only [Instr.storeAt, Instr.sureAddr, storeVar, Sem.run_bind, Sem.run_pure, hz w, Result.andThen, Value.cells]
    simp [hs1, h1]

theorem splice_all {cs vs : List Value} (h : cs.length = vs.length) : splice cs 0 vs = vs := by simp [splice, ← h]

/-- A whole block is overwritten. -/
theorem Ef.stB {b s : Nat} {cs vs : List Value} {e : TypeId} {lo hi : Nat} {hs' : List Assn} (hz : ∀ w, (sizeOf t).run P w = .ok s w) (h : Ev C.n ρ x (.pointer (some ⟨b, 0, none⟩))) (hy : Ev C.n ρ y (.agg vs.toArray))
    (hr : Rep (pts b (.cells cs.toArray e (lo, hi))) (pts b (.cells vs.toArray e (lo, hi))) hs hs') (hb : Blk b (.cells cs.toArray e (lo, hi)) hs) (hs1 : vs.length = s) (hs2 : cs.length = s)
    (hv : ∀ v ∈ vs, v.oneCell' = true) (hf : hi ≤ lo) (k : K undef hs') :
    Ef P C hs ρ ⟨d, .store t x y, ty, pos, af, g⟩ K :=
  Ef.stA (off := 0) hz h hy hs1 hv (by rw [splice_all (by omega)]; exact hr) hb (by omega) (.inr (.inl hf)) k

/-! ### new blocks -/
theorem Ef.alloc {cs : List Value} {z : Value} (hz : ∀ w, (zeroValue t).run P w = .ok z w) (hc : z.cells = cs.toArray) (k : ∀ b, K (.pointer (some ⟨b, 0, none⟩)) (pts b (.cells cs.toArray t) :: hs)) :
    Ef P C hs ρ ⟨d, .alloc t, ty, pos, af, g⟩ K :=
  Ef.ex (fun c h => by cases h) (Instr.alloc t true (.tuple #[])) (fun ds => by simp only [execOp]) fun w hi =>
    ⟨_, w.alloc (.cells cs.toArray t), _, by
      simp only [Instr.alloc, Sem.run_bind, hz w, Result.andThen, newVar, newRow, hc]
      rfl, hi.alloc _, k _⟩

theorem Ef.box {cs : List Value} (h : Ev C.n ρ x v) (hc : v.cells = cs.toArray) (k : ∀ b, K (.pointer (some ⟨b, 0, none⟩)) (pts b (.cells cs.toArray t) :: hs)) :
    Ef P C hs ρ ⟨d, .box t x, ty, pos, af, g⟩ K :=
  Ef.ex (fun c h => by cases h) (Instr.box t v) (fun ds => by simp only [execOp, h ds]) fun w hi =>
    ⟨_, w.alloc (.cells cs.toArray t), _, by
      simp only [Instr.box, newVar, newRow, hc]
      rfl, hi.alloc _, k _⟩

theorem Ef.mkmap (k : ∀ b, K (.map (some b)) (pts b (.map #[] 0) :: hs)) : Ef P C hs ρ ⟨d, .makeMap t none, ty, pos, af, g⟩ K :=
  Ef.ex (fun c h => by cases h) (Instr.makeMap t none) (fun ds => by simp only [execOp, Option.map_none]) fun w hi =>
    ⟨_, w.alloc (.map #[] 0), _, by rfl, hi.alloc _, k _⟩

theorem Rd.build {parts : List (Nat × Operand)} {vs : List (Nat × Value)} {r : Value} (h : ∀ ds, parts.toArray.map (fun p => (p.1, (act C.n ds ρ).eval p.2)) = vs.toArray) (hr : ∀ w, (Instr.build t vs.toArray).run P w = .ok r w) :
    Rd P C hs ρ ⟨d, .build t parts.toArray, ty, pos, af, g⟩ r :=
  Rd.ex (fun c h => by cases h) (Instr.build t vs.toArray) (fun ds => by
    have := h ds
    simp only [execOp]
    rw [this]) fun w _ => hr w

theorem Rd.mkfunc {f : Go.Fn} {xs ys : List Operand} {vs us : List Value} (h1 : EvL C.n ρ xs vs) (h2 : EvL C.n ρ ys us) : Rd P C hs ρ ⟨d, .makeFunc f xs.toArray ys.toArray, ty, pos, af, g⟩ (.func f vs.toArray us.toArray) :=
  Rd.ex (fun c h => by cases h) (Instr.makeFunc f vs.toArray us.toArray) (fun ds => by simp only [execOp, h1.map ds, h2.map ds]) fun w _ => rfl

theorem Rd.len {xs : TypeId} {e : TypeId} {a : Option Addr} {n c : Nat} (hu : ∀ w, (underlying xs).run P w = .ok (.slice e) w) (h : Ev C.n ρ x (.slice a n c)) :
    Rd P C hs ρ ⟨d, .call { callee := .builtin .len, args := #[x], argTypes := #[xs] }, ty, pos, af, g⟩ (.int .i64 n) :=
  Rd.of (fun c h => by cases h) fun w _ => by
    show (execOp (act C.n C.ds ρ).eval _).run P w = _
    simp [execOp, resolve, invoke, builtin, Builtin.len_, Sem.run_bind, Result.andThen, hu w, h C.ds, goInt]
theorem Rd.lenS {xs : TypeId} {s : ByteArray} (hu : ∀ w, (underlying xs).run P w = .ok .string w) (h : Ev C.n ρ x (.string s)) :
    Rd P C hs ρ ⟨d, .call { callee := .builtin .len, args := #[x], argTypes := #[xs] }, ty, pos, af, g⟩ (.int .i64 s.size) :=
  Rd.of (fun c h => by cases h) fun w _ => by
    show (execOp (act C.n C.ds ρ).eval _).run P w = _
    simp [execOp, resolve, invoke, builtin, Builtin.len_, Sem.run_bind, Result.andThen, hu w, h C.ds, goInt]
end

end Go.Proofs.YtbhladkbnleeoaaGreat

namespace Go.Proofs.YtbhladkbnleeoaaGreat

def nthOp : List Oper → Nat → Option Oper
  | [], _ => none
  | o :: _, 0 => some o
  | _ :: l, n + 1 => nthOp l n

theorem nthOp_eq : ∀ (l : List Oper) (n : Nat), nthOp l n = l[n]? := by
  intro l
  induction l with
  | nil => intro n; simp [nthOp]
  | cons o l ih => intro n; cases n with
    | zero => simp [nthOp]
    | succ n => simp [nthOp, ih]

/-- What is told of an operation: does it act; the stage from which it may be carried out; the last stage at which it may be open. -/
structure Lv where
  eff : Bool
  lo : Nat
  hi : Nat
abbrev lz : Lv := ⟨false, 0, 0⟩

def Lv.out (a : Lv) : Nat := if a.eff then a.lo + 1 else a.lo

def lvAt : List Lv → Nat → Lv
  | [], _ => ⟨false, 0, 0⟩
  | a :: _, 0 => a
  | _ :: l, n + 1 => lvAt l n

def preds (o : Oper) : List Nat := (o.after.toList.filter (Region.binds .any ·)).map (·.on)
def looks (l : List Oper) (o : Oper) : List Tmp :=
  (o.op.operands.toList.filterMap fun | .tmp t => some t | _ => none) ++
  (match o.guard with
   | some (j, _) => (((nthOp l j).bind (·.dst))).toList
   | none => [])

/-- The carried ones and the new ones of a stage. -/
def carAt (lv : List Lv) (n s : Nat) : List Nat := (List.range n).filter fun i => !(lvAt lv i).eff && Nat.blt (lvAt lv i).lo s && Nat.ble s (lvAt lv i).hi
def newAt (lv : List Lv) (n s : Nat) : List Nat := (List.range n).filter fun i => !(lvAt lv i).eff && Nat.beq (lvAt lv i).lo s

def okOp (l : List Oper) (lv : List Lv) (es : List Nat) (i : Nat) (o : Oper) : Bool :=
  let a := lvAt lv i
  -- edges lead back
  (preds o).all (fun p => Nat.blt p i) &&
  -- lo
  (preds o).all (fun p => Nat.ble (lvAt lv p).out a.lo) &&
  (Nat.beq a.lo 0 || (preds o).any fun p => Nat.ble a.lo (lvAt lv p).out) &&
  -- hi
  (Nat.ble es.length a.hi || (a.eff && Nat.beq a.hi a.lo) || (List.range l.length).any fun j => Nat.blt i j && Nat.ble (lvAt lv j).hi a.hi && ((nthOp l j).any fun o' => (preds o').contains i)) &&
  -- effects
  (!a.eff || (es[a.lo]? == some i)) &&
  (a.eff || o.dst.isSome) &&
  -- slots
  ((looks l o).all fun t => (List.range l.length).all fun j => match nthOp l j with
    | some o' => !(o'.dst == some t) || ((preds o).contains j && Nat.blt j i) || (!(Nat.beq i j) && (lvAt lv j).eff && Nat.ble a.hi (lvAt lv j).lo)
    | none => true) &&
  ((List.range l.length).all fun j => Nat.beq i j || (match o.dst with | none => true | some t => match nthOp l j with | some o' => !(o'.dst == some t) | none => true)) &&
  (match o.op with | .select .. => false | .defer _ => false | _ => true) &&
  (match o.guard with | none => true | some (j, _) => (preds o).contains j && ((nthOp l j).bind (·.dst)).isSome)

def okFrom (l : List Oper) (lv : List Lv) (es : List Nat) : Nat → List Oper → Bool
  | _, [] => true
  | i, o :: r => okOp l lv es i o && okFrom l lv es (i + 1) r

def okEff (lv : List Lv) : Nat → List Nat → Bool
  | _, [] => true
  | k, e :: es => (lvAt lv e).eff && Nat.beq (lvAt lv e).lo k && okEff lv (k + 1) es

def okAll (l : List Oper) (lv : List Lv) (es : List Nat) : Bool := okFrom l lv es 0 l && okEff lv 0 es && es.all (fun e => Nat.blt e l.length)

section
variable {P : Program} {C : Cx} {Q : Exit → Act → World → Prop}

/-- A reading operation of a region, its guard heeded. -/
def RdAt (P : Program) (C : Cx) (l : List Oper) (hs : List Assn) (ρ : Env) (o : Oper) (v : Value) : Prop :=
  match o.guard with
  | none => Rd P C hs ρ o v
  | some (j, want) => ∃ t x, (nthOp l j).bind (·.dst) = some t ∧ EvO C.n ρ t x ∧ (x = some want → Rd P C hs ρ o v) ∧ (x ≠ some want → v = undef)

def EfAt (P : Program) (C : Cx) (l : List Oper) (hs : List Assn) (ρ : Env) (o : Oper) (K : Value → List Assn → Prop) : Prop :=
  match o.guard with
  | none => Ef P C hs ρ o K
  | some (j, want) => ∃ t x, (nthOp l j).bind (·.dst) = some t ∧ EvO C.n ρ t x ∧ (x = some want → Ef P C hs ρ o K) ∧ (x ≠ some want → K undef hs)

/-- The new operations of a stage, one by one. -/
def DNew (P : Program) (C : Cx) (l : List Oper) (hs : List Assn) : List Nat → Env → (Env → Prop) → Prop
  | [], ρ, K => K ρ
  | i :: r, ρ, K => ∃ o d v, nthOp l i = some o ∧ o.dst = some d ∧ RdAt P C l hs ρ o v ∧ DNew P C l hs r (ext [(d, v)] ρ) K

/-- The carried operations of a stage. -/
def DCar (P : Program) (C : Cx) (l : List Oper) (hs : List Assn) (ρ : Env) : List Nat → Prop
  | [] => True
  | i :: r => (∃ o d, nthOp l i = some o ∧ o.dst = some d ∧ RdAt P C l hs ρ o (ρ d)) ∧ DCar P C l hs ρ r

def DRun (P : Program) (C : Cx) (l : List Oper) (lv : List Lv) (Q : Exit → Act → World → Prop) : List Nat → Nat → Env → List Assn → Prop
  | [], s, ρ, hs => DCar P C l hs ρ (carAt lv l.length s) ∧ DNew P C l hs (newAt lv l.length s) ρ fun ρ' => At C Q .normal ρ' hs
  | e :: es, s, ρ, hs => DCar P C l hs ρ (carAt lv l.length s) ∧ DNew P C l hs (newAt lv l.length s) ρ fun ρ' =>
      ∃ o, nthOp l e = some o ∧ EfAt P C l hs ρ' o fun v hs' => DRun P C l lv Q es (s + 1) (putd o.dst v ρ') hs'

/-! ### soundness -/
variable {l : List Oper} {lv : List Lv} {es : List Nat}

theorem okFrom_at : ∀ {r : List Oper} {i : Nat}, okFrom l lv es i r = true → ∀ {k : Nat} {o : Oper}, r[k]? = some o → okOp l lv es (i + k) o = true := by
  intro r
  induction r with
  | nil => intro i _ k o h; simp at h
  | cons a r ih =>
    intro i h k o hk
    simp only [okFrom, Bool.and_eq_true] at h
    cases k with
    | zero => simp at hk; subst hk; exact h.1
    | succ k =>
      have := ih h.2 (k := k) (o := o) (by simpa using hk)
      rwa [show i + (k + 1) = i + 1 + k by omega]

structure OkOp (l : List Oper) (lv : List Lv) (es : List Nat) (i : Nat) (o : Oper) : Prop where
  back : ∀ p ∈ preds o, p < i
  lo : ∀ p ∈ preds o, (lvAt lv p).out ≤ (lvAt lv i).lo
  lo' : (lvAt lv i).lo = 0 ∨ ∃ p ∈ preds o, (lvAt lv i).lo ≤ (lvAt lv p).out
  hi : es.length ≤ (lvAt lv i).hi ∨ ((lvAt lv i).eff = true ∧ (lvAt lv i).hi = (lvAt lv i).lo) ∨ ∃ j o', i < j ∧ (lvAt lv j).hi ≤ (lvAt lv i).hi ∧ l[j]? = some o' ∧ i ∈ preds o'
  eff : (lvAt lv i).eff = true → es[(lvAt lv i).lo]? = some i
  dst : (lvAt lv i).eff = false → ∃ d, o.dst = some d
  slot : ∀ t ∈ looks l o, ∀ j o', l[j]? = some o' → o'.dst = some t → (j ∈ preds o ∧ j < i) ∨ (i ≠ j ∧ (lvAt lv j).eff = true ∧ (lvAt lv i).hi ≤ (lvAt lv j).lo)
  uniq : ∀ t, o.dst = some t → ∀ j o', l[j]? = some o' → i ≠ j → o'.dst ≠ some t
  sel : ∀ cs b, o.op ≠ .select cs b
  dfr : ∀ c, o.op ≠ .defer c
  grd : ∀ j want, o.guard = some (j, want) → j ∈ preds o ∧ ∃ t, (nthOp l j).bind (·.dst) = some t

theorem okOp_spec {i : Nat} {o : Oper} (hi : l[i]? = some o) (h : okOp l lv es i o = true) : OkOp l lv es i o := by
  have hil : i < l.length := (List.getElem?_eq_some_iff.1 hi).1
  unfold okOp at h
  simp only [Bool.and_eq_true] at h
  obtain ⟨⟨⟨⟨⟨⟨⟨⟨⟨h1, h2⟩, h3⟩, h4⟩, h5⟩, h6⟩, h7⟩, h8⟩, h9⟩, h10⟩ := h
  refine ⟨?_, ?_, ?_, ?_, ?_, ?_, ?_, ?_, ?_, ?_, ?_⟩
  · intro p hp
    have := List.all_eq_true.1 h1 p hp
    exact Nat.lt_of_succ_le (by simpa [Nat.blt] using this)
  · intro p hp
    have := List.all_eq_true.1 h2 p hp
    simpa using this
  · rcases Bool.or_eq_true _ _ ▸ h3 with u | u
    · left; simpa using u
    · right
      obtain ⟨p, hp, u⟩ := List.any_eq_true.1 u
      exact ⟨p, hp, by simpa using u⟩
  · rcases Bool.or_eq_true _ _ ▸ h4 with u | u
    · rcases Bool.or_eq_true _ _ ▸ u with u | u
      · left; simpa using u
      · right; left
        obtain ⟨u, v⟩ := Bool.and_eq_true _ _ ▸ u
        exact ⟨u, by simpa using v⟩
    · right; right
      obtain ⟨j, hj, u⟩ := List.any_eq_true.1 u
      simp only [Bool.and_eq_true] at u
      obtain ⟨⟨u1, u2⟩, u3⟩ := u
      cases hn : nthOp l j with
      | none => rw [hn] at u3; cases u3
      | some o' =>
        rw [hn] at u3
        exact ⟨j, o', Nat.lt_of_succ_le (by simpa [Nat.blt] using u1), by simpa using u2, by rw [← nthOp_eq]; exact hn, by simpa using u3⟩
  · intro he
    rw [he] at h5
    simpa using h5
  · intro he
    rw [he] at h6
    cases hd : o.dst with
    | none => rw [hd] at h6; cases h6
    | some d => exact ⟨d, rfl⟩
  · intro t ht j o' hj hd
    have := List.all_eq_true.1 (List.all_eq_true.1 h7 t ht) j (List.mem_range.2 (List.getElem?_eq_some_iff.1 hj).1)
    rw [nthOp_eq, hj] at this
    simp only [hd] at this
    rcases Bool.or_eq_true _ _ ▸ this with u | u
    · rcases Bool.or_eq_true _ _ ▸ u with u | u
      · simp at u
      · left
        obtain ⟨u, v⟩ := Bool.and_eq_true _ _ ▸ u
        exact ⟨by simpa using u, Nat.lt_of_succ_le (by simpa [Nat.blt] using v)⟩
    · right
      simp only [Bool.and_eq_true] at u
      obtain ⟨⟨u1, u2⟩, u3⟩ := u
      exact ⟨fun e => by subst e; simp at u1, u2, by simpa using u3⟩
  · intro t ht j o' hj hne hd
    have := List.all_eq_true.1 h8 j (List.mem_range.2 (List.getElem?_eq_some_iff.1 hj).1)
    rw [ht, nthOp_eq, hj] at this
    simp only [hd] at this
    rcases Bool.or_eq_true _ _ ▸ this with u | u
    · exact hne (by simpa using u)
    · simp at u
  · intro cs b e
    rw [e] at h9; cases h9
  · intro c e
    rw [e] at h9; cases h9
  · intro j want e
    rw [e] at h10
    obtain ⟨u, v⟩ := Bool.and_eq_true _ _ ▸ h10
    refine ⟨by simpa using u, ?_⟩
    cases hd : (nthOp l j).bind (·.dst) with
    | none => rw [hd] at v; cases v
    | some t => exact ⟨t, rfl⟩

theorem okEff_at : ∀ {es : List Nat} {k : Nat}, okEff lv k es = true → ∀ {j e : Nat}, es[j]? = some e → (lvAt lv e).eff = true ∧ (lvAt lv e).lo = k + j := by
  intro es
  induction es with
  | nil => intro k _ j e h; simp at h
  | cons a es ih =>
    intro k h j e hj
    simp only [okEff, Bool.and_eq_true] at h
    cases j with
    | zero => simp at hj; subst hj; exact ⟨h.1.1, by simpa using h.1.2⟩
    | succ j =>
      have := ih h.2 (j := j) (e := e) (by simpa using hj)
      exact ⟨this.1, by omega⟩

/-- The frame as it is and the frame as it is thought to be. -/
def Like (l : List Oper) (lv : List Lv) (L : Nat → Bool) (ρr ρv : Env) : Prop :=
  ∀ t, (∀ i o, l[i]? = some o → L i = false → (lvAt lv i).eff = false → o.dst ≠ some t) → ρr t = ρv t

theorem rd_congr {hs : List Assn} {ρ ρ' : Env} {o : Oper} {v : Value} (hsel : ∀ cs b, o.op ≠ .select cs b) (hd : ∀ c, o.op ≠ .defer c)
    (hq : ∀ t, Operand.tmp t ∈ o.op.operands → ρ t = ρ' t) (h : Rd P C hs ρ o v) : Rd P C hs ρ' o v := by
  intro w hi
  have := h w hi
  rw [Oper.semAt_eq _ _ _ hd] at this ⊢
  rw [← this]
  congr 1
  refine execOp_congr o hsel fun x hx => ?_
  cases x with
  | tmp t => show (act C.n C.ds ρ').eval _ = (act C.n C.ds ρ).eval _; rw [act_eval, act_eval, hq t hx]
  | const v => rfl
  | global g => rfl
  | func f => rfl

theorem ef_congr {hs : List Assn} {ρ ρ' : Env} {o : Oper} {K : Value → List Assn → Prop} (hsel : ∀ cs b, o.op ≠ .select cs b) (hd : ∀ c, o.op ≠ .defer c)
    (hq : ∀ t, Operand.tmp t ∈ o.op.operands → ρ t = ρ' t) (h : Ef P C hs ρ o K) : Ef P C hs ρ' o K := by
  intro w hi
  have := h w hi
  rw [Oper.semAt_eq _ _ _ hd] at this ⊢
  have e : execOp (C.act ρ').eval o = execOp (C.act ρ).eval o := by
    refine execOp_congr o hsel fun x hx => ?_
    cases x with
    | tmp t => show (act C.n C.ds ρ').eval _ = (act C.n C.ds ρ).eval _; rw [act_eval, act_eval, hq t hx]
    | const v => rfl
    | global g => rfl
    | func f => rfl
  rw [e]
  exact this

theorem mem_looks_op {o : Oper} {t : Tmp} (h : Operand.tmp t ∈ o.op.operands) : t ∈ looks l o := by
  unfold looks
  refine List.mem_append.2 (.inl (List.mem_filterMap.2 ⟨.tmp t, by simpa using h, rfl⟩))
theorem mem_looks_guard {o : Oper} {j : Nat} {want : Bool} {t : Tmp} (hg : o.guard = some (j, want)) (h : (nthOp l j).bind (·.dst) = some t) : t ∈ looks l o := by
  unfold looks
  rw [hg]
  refine List.mem_append.2 (.inr ?_)
  simp [h]

theorem ev_congr {n : Nat} {ρ ρ' : Env} {t : Tmp} {v : Value} (h : ρ t = ρ' t) (e : Ev n ρ (.tmp t) v) : Ev n ρ' (.tmp t) v := fun ds => by
  have := e ds
  rw [act_eval] at this ⊢
  rw [← h]; exact this

theorem evO_congr {n : Nat} {ρ ρ' : Env} {t : Nat} {x : Option Bool} (h : ρ t = ρ' t) (e : EvO n ρ t x) : EvO n ρ' t x := by
  cases x
  · exact ev_congr h e
  · exact ev_congr h e
theorem rdAt_congr {hs : List Assn} {ρ ρ' : Env} {i : Nat} {o : Oper} {v : Value} (k : OkOp l lv es i o) (hq : ∀ t ∈ looks l o, ρ t = ρ' t) (h : RdAt P C l hs ρ o v) : RdAt P C l hs ρ' o v := by
  unfold RdAt at h ⊢
  cases hg : o.guard with
  | none => rw [hg] at h; exact rd_congr k.sel k.dfr (fun t ht => hq t (mem_looks_op ht)) h
  | some z =>
    obtain ⟨j, want⟩ := z
    rw [hg] at h
    obtain ⟨t, b, h1, h2, h3, h4⟩ := h
    exact ⟨t, b, h1, evO_congr (hq t (mem_looks_guard hg h1)) h2, fun e => rd_congr k.sel k.dfr (fun t ht => hq t (mem_looks_op ht)) (h3 e), h4⟩

theorem efAt_congr {hs : List Assn} {ρ ρ' : Env} {i : Nat} {o : Oper} {K : Value → List Assn → Prop} (k : OkOp l lv es i o) (hq : ∀ t ∈ looks l o, ρ t = ρ' t) (h : EfAt P C l hs ρ o K) : EfAt P C l hs ρ' o K := by
  unfold EfAt at h ⊢
  cases hg : o.guard with
  | none => rw [hg] at h; exact ef_congr k.sel k.dfr (fun t ht => hq t (mem_looks_op ht)) h
  | some z =>
    obtain ⟨j, want⟩ := z
    rw [hg] at h
    obtain ⟨t, b, h1, h2, h3, h4⟩ := h
    exact ⟨t, b, h1, evO_congr (hq t (mem_looks_guard hg h1)) h2, fun e => ef_congr k.sel k.dfr (fun t ht => hq t (mem_looks_op ht)) (h3 e), h4⟩

/-- What a stage's new operations come to. -/
theorem dnew_out {hs : List Assn} {K : Env → Prop} (ok : ∀ i o, l[i]? = some o → OkOp l lv es i o) : ∀ (is : List Nat) (ρ : Env), List.Pairwise (· < ·) is → (∀ i ∈ is, (lvAt lv i).eff = false) → DNew P C l hs is ρ K →
    ∃ ρ', K ρ' ∧ (∀ t, (∀ i ∈ is, ∀ o, l[i]? = some o → o.dst ≠ some t) → ρ' t = ρ t) ∧ ∀ i ∈ is, ∃ o d, l[i]? = some o ∧ o.dst = some d ∧ RdAt P C l hs ρ' o (ρ' d) := by
  intro is
  induction is with
  | nil => intro ρ _ _ h; exact ⟨ρ, h, fun _ _ => rfl, by simp⟩
  | cons i is ih =>
    intro ρ hp hne h
    obtain ⟨o, d, v, ho, hd, hr, h⟩ := h
    rw [nthOp_eq] at ho
    obtain ⟨hp1, hp2⟩ := List.pairwise_cons.1 hp
    obtain ⟨ρ', hK, heq, hall⟩ := ih _ hp2 (fun j hj => hne j (List.mem_cons_of_mem _ hj)) h
    have k := ok i o ho
    have hlook : ∀ t ∈ looks l o, ρ t = ρ' t := fun t ht => by
      have h1 : ρ' t = ext [(d, v)] ρ t := heq t fun j hj o' ho' hd' => by
        rcases k.slot t ht j o' ho' hd' with ⟨_, u⟩ | ⟨_, u, _⟩
        · have := hp1 j hj; omega
        · rw [hne j (List.mem_cons_of_mem _ hj)] at u; cases u
      rw [h1, ext_cons]
      show ρ t = if t = d then v else ρ t
      rw [if_neg]
      rintro rfl
      rcases k.slot t ht i o ho hd with ⟨_, u⟩ | ⟨u, _, _⟩
      · omega
      · exact u rfl
    have hdv : ρ' d = v := by
      rw [heq d fun j hj o' ho' => k.uniq d hd j o' ho' (by have := hp1 j hj; omega)]
      exact if_pos rfl
    refine ⟨ρ', hK, fun t ht => ?_, fun j hj => ?_⟩
    · rw [heq t fun j hj => ht j (List.mem_cons_of_mem _ hj)]
      show (if t = d then v else ρ t) = ρ t
      rw [if_neg]
      rintro rfl
      exact ht i (List.mem_cons_self ..) o ho hd
    · rcases List.mem_cons.1 hj with rfl | hj
      · exact ⟨o, d, ho, hd, by rw [hdv]; exact rdAt_congr k hlook hr⟩
      · exact hall j hj

theorem dcar_out {hs : List Assn} {ρ : Env} : ∀ {is : List Nat}, DCar P C l hs ρ is → ∀ i ∈ is, ∃ o d, l[i]? = some o ∧ o.dst = some d ∧ RdAt P C l hs ρ o (ρ d) := by
  intro is
  induction is with
  | nil => intro _ i hi; cases hi
  | cons j is ih =>
    rintro ⟨⟨o, d, a, b, c⟩, h⟩ i hi
    rcases List.mem_cons.1 hi with rfl | hi
    · exact ⟨o, d, by rw [← nthOp_eq]; exact a, b, c⟩
    · exact ih h i hi

/-- The state between two operations: s effects are done. -/
structure St (P : Program) (C : Cx) (Q : Exit → Act → World → Prop) (l : List Oper) (lv : List Lv) (es : List Nat) (L : Nat → Bool) (s : Nat) (ρv : Env) (hs : List Assn) : Prop where
  closed : ∀ i o, l[i]? = some o → L i = true → ∀ p ∈ preds o, L p = true
  mem : ∀ i o, l[i]? = some o → L i = true → (lvAt lv i).lo ≤ s
  effs : ∀ i o, l[i]? = some o → (lvAt lv i).eff = true → (L i = true ↔ (lvAt lv i).lo < s)
  bound : s ≤ es.length
  rds : ∀ i o, l[i]? = some o → L i = false → (lvAt lv i).eff = false → (lvAt lv i).lo ≤ s → ∃ d, o.dst = some d ∧ RdAt P C l hs ρv o (ρv d)
  next : match es.drop s with
    | [] => At C Q .normal ρv hs
    | e :: es' => ∃ o, nthOp l e = some o ∧ EfAt P C l hs ρv o fun v hs' => DRun P C l lv Q es' (s + 1) (putd o.dst v ρv) hs'

theorem hi_bound (ok : ∀ i o, l[i]? = some o → OkOp l lv es i o) {L : Nat → Bool} {s : Nat} (closed : ∀ i o, l[i]? = some o → L i = true → ∀ p ∈ preds o, L p = true)
    (effs : ∀ i o, l[i]? = some o → (lvAt lv i).eff = true → (L i = true ↔ (lvAt lv i).lo < s)) (bound : s ≤ es.length) :
    ∀ m i o, l.length - i = m → l[i]? = some o → L i = false → s ≤ (lvAt lv i).hi := by
  intro m
  induction m using Nat.strongRecOn with
  | _ m ih =>
    intro i o hm ho hL
    rcases (ok i o ho).hi with u | ⟨u, v⟩ | ⟨j, o', u, v, x, y⟩
    · omega
    · have := (effs i o ho u)
      rw [hL] at this
      have h2 : ¬ (lvAt lv i).lo < s := fun h => by have := this.2 h; cases this
      omega
    · have hjl : j < l.length := (List.getElem?_eq_some_iff.1 x).1
      have hLj : L j = false := by
        cases hj : L j with
        | false => rfl
        | true => have := closed j o' x hj i y; rw [hL] at this; cases this
      have := ih (l.length - j) (by omega) j o' rfl x hLj
      omega

/-- A stage begins. -/
theorem st_of_run (ok : ∀ i o, l[i]? = some o → OkOp l lv es i o) {L : Nat → Bool} {s : Nat} {ρ : Env} {hs : List Assn}
    (closed : ∀ i o, l[i]? = some o → L i = true → ∀ p ∈ preds o, L p = true) (mem : ∀ i o, l[i]? = some o → L i = true → (lvAt lv i).lo < s ∨ (s = 0 ∧ False) ∨ ((lvAt lv i).lo ≤ s ∧ (lvAt lv i).eff = true))
    (effs : ∀ i o, l[i]? = some o → (lvAt lv i).eff = true → (L i = true ↔ (lvAt lv i).lo < s)) (bound : s ≤ es.length)
    (h : DRun P C l lv Q (es.drop s) s ρ hs) :
    ∃ ρv, St P C Q l lv es L s ρv hs ∧ ∀ t, (∀ i o, l[i]? = some o → L i = false → (lvAt lv i).eff = false → o.dst ≠ some t) → ρv t = ρ t := by
  have hcar : DCar P C l hs ρ (carAt lv l.length s) := by
    cases he : es.drop s with
    | nil => rw [he] at h; exact h.1
    | cons e es' => rw [he] at h; exact h.1
  have hnew : DNew P C l hs (newAt lv l.length s) ρ fun ρ' => match es.drop s with
      | [] => At C Q .normal ρ' hs
      | e :: es' => ∃ o, nthOp l e = some o ∧ EfAt P C l hs ρ' o fun v hs' => DRun P C l lv Q es' (s + 1) (putd o.dst v ρ') hs' := by
    cases he : es.drop s with
    | nil => rw [he] at h; exact h.2
    | cons e es' => rw [he] at h; exact h.2
  have hpw : List.Pairwise (· < ·) (newAt lv l.length s) := List.Pairwise.filter _ List.pairwise_lt_range
  have hmemN : ∀ i, i ∈ newAt lv l.length s ↔ i < l.length ∧ (lvAt lv i).eff = false ∧ (lvAt lv i).lo = s := by
    intro i
    simp [newAt, List.mem_filter]
  obtain ⟨ρv, hK, heq, hall⟩ := dnew_out ok _ ρ hpw (fun i hi => ((hmemN i).1 hi).2.1) hnew
  have hnotL : ∀ i o, l[i]? = some o → (lvAt lv i).eff = false → (lvAt lv i).lo = s → L i = false := fun i o ho he hlo => by
    cases hL : L i with
    | false => rfl
    | true =>
      rcases mem i o ho hL with u | ⟨_, u⟩ | ⟨_, u⟩
      · omega
      · exact u.elim
      · rw [he] at u; cases u
  refine ⟨ρv, ⟨closed, fun i o ho hL => ?_, effs, bound, fun i o ho hL he hlo => ?_, hK⟩, fun t ht => heq t fun i hi o ho => ?_⟩
  · rcases mem i o ho hL with u | ⟨_, u⟩ | ⟨u, _⟩
    · omega
    · exact u.elim
    · exact u
  · have hil : i < l.length := (List.getElem?_eq_some_iff.1 ho).1
    by_cases hq : (lvAt lv i).lo = s
    · obtain ⟨o', d, a, b, c⟩ := hall i ((hmemN i).2 ⟨hil, he, hq⟩)
      rw [ho] at a; cases a
      exact ⟨d, b, c⟩
    · have hhi := hi_bound ok closed effs bound _ i o rfl ho hL
      have hmc : i ∈ carAt lv l.length s := by
        simp only [carAt, List.mem_filter, List.mem_range]
        refine ⟨hil, ?_⟩
        rw [he]
        simp [Nat.blt]
        omega
      obtain ⟨o', d, a, b, c⟩ := dcar_out hcar i hmc
      rw [ho] at a; cases a
      have k := ok i o ho
      have hlook : ∀ t ∈ looks l o, ρ t = ρv t := fun t ht => (heq t fun j hj o' ho' hd' => by
        obtain ⟨_, hje, hjlo⟩ := (hmemN j).1 hj
        rcases k.slot t ht j o' ho' hd' with ⟨u, _⟩ | ⟨_, u, _⟩
        · have := k.lo j u
          simp only [Lv.out, hje] at this
          simp at this
          omega
        · rw [hje] at u; cases u).symm
      have hdv : ρv d = ρ d := heq d fun j hj o' ho' hd' => by
        have hji : i ≠ j := fun e => by
          subst e
          exact hq ((hmemN i).1 hj).2.2
        exact k.uniq d b j o' ho' hji hd'
      exact ⟨d, b, by rw [hdv]; exact rdAt_congr k hlook c⟩
  · obtain ⟨_, he, hlo⟩ := (hmemN i).1 hi
    exact ht i o ho (hnotL i o ho he hlo) he

theorem draw_any (ok : ∀ i o, l[i]? = some o → OkOp l lv es i o) (hes : ∀ k e, es[k]? = some e → (lvAt lv e).eff = true ∧ (lvAt lv e).lo = k) (hel : ∀ e ∈ es, e < l.length) :
    ∀ (fuel : Nat) (listed : Array Bool) (ρr ρv : Env) (s : Nat) (hs : List Assn) (w : World), listed.size = l.length → ((List.range l.length).filter fun i => !listed.getD i false).length ≤ fuel →
      St P C Q l lv es (fun i => listed.getD i false) s ρv hs → Like l lv (fun i => listed.getD i false) ρr ρv → C.inv hs w →
      wpAnyIn (wideR C.r) 0 P .any l.toArray Q fuel listed (C.act ρr) w := by
  intro fuel
  have hgd : ∀ (listed : Array Bool) (i : Nat), i < listed.size → listed.getD i true = listed.getD i false := fun listed i h => by simp [h]
  have hready : ∀ (listed : Array Bool) (i : Nat), listed.size = l.length → (i ∈ Region.ready .any l.toArray listed ↔ ∃ o, l[i]? = some o ∧ listed.getD i false = false ∧ ∀ p ∈ preds o, listed.getD p false = true) := by
    intro listed i hsz
    rw [mem_ready]
    constructor
    · rintro ⟨h1, o, ho, h2⟩
      have ho' : l[i]? = some o := by simpa using ho
      refine ⟨o, ho', ?_, fun p hp => ?_⟩
      · rw [← hgd listed i (by rw [hsz]; exact (List.getElem?_eq_some_iff.1 ho').1)]; exact h1
      · obtain ⟨e, he, rfl⟩ := List.mem_map.1 hp
        obtain ⟨he1, he2⟩ := List.mem_filter.1 he
        exact h2 e (by simpa using he1) he2
    · rintro ⟨o, ho, h1, h2⟩
      refine ⟨?_, o, by simpa using ho, fun e he hb => h2 _ (List.mem_map.2 ⟨e, List.mem_filter.2 ⟨by simpa using he, hb⟩, rfl⟩)⟩
      rw [hgd listed i (by rw [hsz]; exact (List.getElem?_eq_some_iff.1 ho).1)]; exact h1
  have hdone : ∀ (listed : Array Bool), listed.size = l.length → Region.ready .any l.toArray listed = [] → ∀ i, i < l.length → listed.getD i false = true := by
    intro listed hsz hr i
    induction i using Nat.strongRecOn with
    | _ i ih =>
      intro hi
      cases hL : listed.getD i false with
      | true => rfl
      | false =>
        have : i ∈ Region.ready .any l.toArray listed := (hready listed i hsz).2 ⟨l[i], by simp [hi], hL, fun p hp => by
          have := (ok i l[i] (by simp [hi])).back p hp
          exact ih p this (by omega)⟩
        rw [hr] at this; cases this
  have hfin : ∀ (listed : Array Bool) (ρr ρv : Env) (s : Nat) (hs : List Assn) (w : World), listed.size = l.length → (∀ i, i < l.length → listed.getD i false = true) →
      St P C Q l lv es (fun i => listed.getD i false) s ρv hs → Like l lv (fun i => listed.getD i false) ρr ρv → C.inv hs w → Q .normal (C.act ρr) w := by
    intro listed ρr ρv s hs w hsz hall st like hi
    have hρ : ρr = ρv := funext fun t => like t fun i o ho hL => by
      have := hall i (List.getElem?_eq_some_iff.1 ho).1
      cases this.symm.trans hL
    have hs' : es.drop s = [] := by
      cases hd : es.drop s with
      | nil => rfl
      | cons e es' =>
        have hk : es[s]? = some e := by
          have := congrArg List.head? hd
          rw [List.head?_drop] at this
          simpa using this
        obtain ⟨u, v⟩ := hes s e hk
        have hlt := hel e (List.mem_of_getElem? hk)
        have h1 := (st.effs e l[e] (by simp [hlt]) u).1 (hall e hlt)
        omega
    have := st.next
    rw [hs'] at this
    rw [hρ]; exact this w hi
  induction fuel with
  | zero =>
    intro listed ρr ρv s hs w hsz hcnt st like hi
    have hall : ∀ i, i < l.length → listed.getD i false = true := fun i hil => by
      cases hL : listed.getD i false with
      | true => rfl
      | false =>
        have : i ∈ (List.range l.length).filter fun i => !listed.getD i false := List.mem_filter.2 ⟨List.mem_range.2 hil, by simpa using hL⟩
        rw [List.length_eq_zero_iff.1 (Nat.le_zero.1 hcnt)] at this; cases this
    refine ⟨?_, hfin listed ρr ρv s hs w hsz hall st like hi⟩
    cases hr : Region.ready .any l.toArray listed with
    | nil => rfl
    | cons i r =>
      have : i ∈ Region.ready .any l.toArray listed := by rw [hr]; exact List.mem_cons_self ..
      obtain ⟨o, ho, h1, _⟩ := (hready listed i hsz).1 this
      rw [hall i (List.getElem?_eq_some_iff.1 ho).1] at h1; cases h1
  | succ fuel ih =>
    intro listed ρr ρv s hs w hsz hcnt st like hi
    refine ⟨fun hr => hfin listed ρr ρv s hs w hsz (hdone listed hsz hr) st like hi, fun i hir => ?_⟩
    obtain ⟨o, ho, hL, hpred⟩ := (hready listed i hsz).1 hir
    have hil : i < l.length := (List.getElem?_eq_some_iff.1 ho).1
    have k := ok i o ho
    have hsz' : (listed.setIfInBounds i true).size = l.length := by simpa using hsz
    have hset : ∀ j, (listed.setIfInBounds i true).getD j false = if j = i then true else listed.getD j false := fun j => by
      by_cases hj : j = i
      · subst hj; simp [hsz, hil]
      · rw [if_neg hj, getD_set_ne false (fun e => hj e.symm)]
    have hcnt' : ((List.range l.length).filter fun j => !(listed.setIfInBounds i true).getD j false).length ≤ fuel := by
      have hsub : ((List.range l.length).filter fun j => !(listed.setIfInBounds i true).getD j false).length < ((List.range l.length).filter fun j => !listed.getD j false).length := by
        rw [← List.countP_eq_length_filter, ← List.countP_eq_length_filter]
        have hgen : ∀ (r : List Nat), i ∈ r → r.countP (fun j => !(listed.setIfInBounds i true).getD j false) < r.countP (fun j => !listed.getD j false) := by
          intro r
          have hle : ∀ (r : List Nat), r.countP (fun j => !(listed.setIfInBounds i true).getD j false) ≤ r.countP (fun j => !listed.getD j false) := fun r =>
            List.countP_mono_left fun j _ hj => by
              rw [hset] at hj
              by_cases e : j = i
              · simp [e] at hj
              · simpa [e] using hj
          induction r with
          | nil => intro h; cases h
          | cons a r ih2 =>
            intro hm
            rw [List.countP_cons, List.countP_cons]
            by_cases e : a = i
            · subst e
              have h1 : (!(listed.setIfInBounds a true).getD a false) = false := by rw [hset]; simp
              have h2 : (!listed.getD a false) = true := by rw [hL]; rfl
              rw [h1, h2]
              have := hle r
              simp only [Bool.false_eq_true, if_false, if_true]
              omega
            · have h1 := ih2 (by rcases List.mem_cons.1 hm with h | h; exact absurd h.symm e; exact h)
              have h2 : (!(listed.setIfInBounds i true).getD a false) = (!listed.getD a false) := by rw [hset, if_neg e]
              rw [h2]; omega
        exact hgen _ (List.mem_range.2 hil)
      omega
    have hlookr : ∀ t ∈ looks l o, ρr t = ρv t := fun t ht => like t fun j oj hoj hLj hej hdj => by
      rcases k.slot t ht j oj hoj hdj with ⟨u, _⟩ | ⟨_, u, _⟩
      · have := hpred j u
        cases this.symm.trans hLj
      · rw [hej] at u; cases u
    have hlo : (lvAt lv i).lo ≤ s := by
      rcases k.lo' with u | ⟨p, hp, u⟩
      · omega
      · have hLp := hpred p hp
        have hpl : p < l.length := by have := k.back p hp; omega
        have hop : l[p]? = some l[p] := by simp [hpl]
        have h1 := st.mem p l[p] hop hLp
        unfold Lv.out at u
        split at u
        · rename_i he
          have := (st.effs p l[p] hop he).1 hLp
          omega
        · omega
    have hclosed' : ∀ j oj, l[j]? = some oj → (listed.setIfInBounds i true).getD j false = true → ∀ p ∈ preds oj, (listed.setIfInBounds i true).getD p false = true := by
      intro j oj hoj hj p hp
      rw [hset]
      by_cases e : p = i
      · simp [e]
      · rw [if_neg e]
        rw [hset] at hj
        by_cases e' : j = i
        · subst e'; rw [ho] at hoj; cases hoj; exact hpred p hp
        · rw [if_neg e'] at hj
          exact st.closed j oj hoj hj p hp
    have hwop : wpOpIn (wideR C.r) 0 P l.toArray Q i (wpAnyIn (wideR C.r) 0 P .any l.toArray Q fuel (listed.setIfInBounds i true)) (C.act ρr) w := by
      unfold wpOpIn
      have hoa : l.toArray[i]? = some o := by simpa using ho
      rw [hoa]
      simp only []
      by_cases heff : (lvAt lv i).eff = true
      · -- the next effect
        have hsi : (lvAt lv i).lo = s := by
          have := (st.effs i o ho heff)
          simp only [hL] at this
          have h2 : ¬ (lvAt lv i).lo < s := fun h => by have := this.2 h; cases this
          omega
        have hes_i := k.eff heff
        rw [hsi] at hes_i
        have hnext := st.next
        have hdr : es.drop s = i :: es.drop (s + 1) := by
          obtain ⟨hlt, he⟩ := List.getElem?_eq_some_iff.1 hes_i
          rw [List.drop_eq_getElem_cons hlt, he]
        rw [hdr] at hnext
        obtain ⟨o', ho', hef⟩ := hnext
        rw [nthOp_eq, ho] at ho'; cases ho'
        have hef' := efAt_congr k (fun t ht => (hlookr t ht).symm) hef
        have hgo : ∀ v hs', DRun P C l lv Q (es.drop (s + 1)) (s + 1) (putd o.dst v ρv) hs' → ∀ w', C.inv hs' w' →
            wpAnyIn (wideR C.r) 0 P .any l.toArray Q fuel (listed.setIfInBounds i true) (C.act (putd o.dst v ρr)) w' := by
          intro v hs' hrun w' hi'
          have hmem' : ∀ j oj, l[j]? = some oj → (listed.setIfInBounds i true).getD j false = true → (lvAt lv j).lo < s + 1 ∨ (s + 1 = 0 ∧ False) ∨ ((lvAt lv j).lo ≤ s + 1 ∧ (lvAt lv j).eff = true) := by
            intro j oj hoj hj
            rw [hset] at hj
            by_cases e : j = i
            · subst e; left; omega
            · rw [if_neg e] at hj
              have := st.mem j oj hoj hj
              left; omega
          have heffs' : ∀ j oj, l[j]? = some oj → (lvAt lv j).eff = true → ((listed.setIfInBounds i true).getD j false = true ↔ (lvAt lv j).lo < s + 1) := by
            intro j oj hoj he
            rw [hset]
            by_cases e : j = i
            · subst e; simp; omega
            · rw [if_neg e]
              have h1 : listed.getD j false = true ↔ (lvAt lv j).lo < s := st.effs j oj hoj he
              rw [h1]
              constructor
              · omega
              · intro h
                have h2 := (ok j oj hoj).eff he
                by_cases hq : (lvAt lv j).lo = s
                · rw [hq, hes_i] at h2
                  exact absurd (Option.some.inj h2).symm e
                · omega
          have hb' : s + 1 ≤ es.length := (List.getElem?_eq_some_iff.1 hes_i).1
          obtain ⟨ρv2, st2, heq2⟩ := st_of_run (L := fun j => (listed.setIfInBounds i true).getD j false) ok hclosed' hmem' heffs' hb' hrun
          refine ih (listed.setIfInBounds i true) (putd o.dst v ρr) ρv2 (s + 1) hs' w' hsz' hcnt' st2 ?_ hi'
          intro t ht
          rw [heq2 t ht]
          cases hd : o.dst with
          | none =>
            refine like t fun j oj hoj hLj hej => ht j oj hoj ?_ hej
            show (listed.setIfInBounds i true).getD j false = false
            rw [hset, if_neg (fun e => by subst e; rw [heff] at hej; cases hej)]; exact hLj
          | some d =>
            show (if t = d then v else ρr t) = if t = d then v else ρv t
            by_cases e : t = d
            · rw [if_pos e, if_pos e]
            · rw [if_neg e, if_neg e]
              refine like t fun j oj hoj hLj hej => ht j oj hoj ?_ hej
              show (listed.setIfInBounds i true).getD j false = false
              rw [hset, if_neg (fun e => by subst e; rw [heff] at hej; cases hej)]; exact hLj
        unfold EfAt at hef'
        cases hg : o.guard with
        | none =>
          rw [hg] at hef'
          rw [if_pos (wanted_none hg _)]
          exact uponIn_of hef' (fun v hs' h w' hi' => hgo v hs' h w' hi') w hi
        | some z =>
          obtain ⟨j, want⟩ := z
          rw [hg] at hef'
          obtain ⟨t, b, h1, h2, h3, h4⟩ := hef'
          have hy : yielded l.toArray (C.act ρr).tmps j = b := yieldedO (by rw [nthOp_eq] at h1; simpa using h1) h2
          by_cases hb : b = some want
          · rw [if_pos (by simp [Region.wanted, hg, hy, hb])]
            exact uponIn_of (h3 hb) (fun v hs' h w' hi' => hgo v hs' h w' hi') w hi
          · rw [if_neg (by simp [Region.wanted, hg, hy, hb])]
            refine ⟨fun _ _ => trivial, ?_⟩
            rw [act_putd]
            exact hgo undef hs (h4 hb) w hi
      · -- a reading operation
        have heff' : (lvAt lv i).eff = false := by simpa using heff
        obtain ⟨d, hd, hrd⟩ := st.rds i o ho hL heff' hlo
        have hrd' := rdAt_congr k (fun t ht => (hlookr t ht).symm) hrd
        have hgo : ∀ w', C.inv hs w' → wpAnyIn (wideR C.r) 0 P .any l.toArray Q fuel (listed.setIfInBounds i true) (C.act (putd o.dst (ρv d) ρr)) w' := by
          intro w' hi'
          refine ih (listed.setIfInBounds i true) (putd o.dst (ρv d) ρr) ρv s hs w' hsz' hcnt' ?_ ?_ hi'
          · refine ⟨hclosed', fun j oj hoj hj => ?_, fun j oj hoj he => ?_, st.bound, fun j oj hoj hj => ?_, st.next⟩
            · replace hj : (listed.setIfInBounds i true).getD j false = true := hj
              rw [hset] at hj
              by_cases e : j = i
              · subst e; exact hlo
              · rw [if_neg e] at hj; exact st.mem j oj hoj hj
            · show (listed.setIfInBounds i true).getD j false = true ↔ _
              rw [hset, if_neg (fun e => by subst e; rw [he] at heff'; cases heff')]
              exact st.effs j oj hoj he
            · replace hj : (listed.setIfInBounds i true).getD j false = false := hj
              rw [hset] at hj
              by_cases e : j = i
              · rw [if_pos e] at hj; cases hj
              · rw [if_neg e] at hj; exact st.rds j oj hoj hj
          · intro t ht
            rw [hd]
            show (if t = d then ρv d else ρr t) = ρv t
            by_cases e : t = d
            · rw [if_pos e, e]
            · rw [if_neg e]
              refine like t fun j oj hoj hLj hej => ?_
              by_cases e' : j = i
              · subst e'
                rw [ho] at hoj; cases hoj
                rw [hd]
                exact fun h => e (Option.some.inj h).symm
              · refine ht j oj hoj ?_ hej
                show (listed.setIfInBounds i true).getD j false = false
                rw [hset, if_neg e']; exact hLj
        unfold RdAt at hrd'
        cases hg : o.guard with
        | none =>
          rw [hg] at hrd'
          rw [if_pos (wanted_none hg _)]
          exact uponIn_of (K := fun v hs' => v = ρv d ∧ hs' = hs) (hrd'.ef ⟨rfl, rfl⟩) (fun v hs' h w' hi' => by obtain ⟨rfl, rfl⟩ := h; exact hgo w' hi') w hi
        | some z =>
          obtain ⟨j, want⟩ := z
          rw [hg] at hrd'
          obtain ⟨t, b, h1, h2, h3, h4⟩ := hrd'
          have hy : yielded l.toArray (C.act ρr).tmps j = b := yieldedO (by rw [nthOp_eq] at h1; simpa using h1) h2
          by_cases hb : b = some want
          · rw [if_pos (by simp [Region.wanted, hg, hy, hb])]
            exact uponIn_of (K := fun v hs' => v = ρv d ∧ hs' = hs) ((h3 hb).ef ⟨rfl, rfl⟩) (fun v hs' h w' hi' => by obtain ⟨rfl, rfl⟩ := h; exact hgo w' hi') w hi
          · rw [if_neg (by simp [Region.wanted, hg, hy, hb])]
            refine ⟨fun _ _ => trivial, ?_⟩
            rw [act_putd, ← h4 hb]
            exact hgo w hi
    exact hwop

/-- THE RULE. -/
theorem J.draw {id : Nat} {ρ : Env} {hs : List Assn} (lv : List Lv) (es : List Nat) (hm : P.follows .mixedOrders = true) (hok : okAll l lv es = true) (h : DRun P C l lv Q es 0 ρ hs) :
    J P C (.region id l.toArray true) Q ρ hs := by
  unfold okAll at hok
  simp only [Bool.and_eq_true] at hok
  obtain ⟨⟨h1, h2⟩, h3⟩ := hok
  have ok : ∀ i o, l[i]? = some o → OkOp l lv es i o := fun i o ho => okOp_spec ho (by have := okFrom_at h1 ho; rwa [Nat.zero_add] at this)
  have hes : ∀ k e, es[k]? = some e → (lvAt lv e).eff = true ∧ (lvAt lv e).lo = k := fun k e he => by have := okEff_at h2 he; rwa [Nat.zero_add] at this
  have hel : ∀ e ∈ es, e < l.length := fun e he => Nat.lt_of_succ_le (by have := List.all_eq_true.1 h3 e he; simpa [Nat.blt] using this)
  intro w hi
  refine wpIn_region_any hm ?_
  have hL : ∀ i, (Array.replicate l.toArray.size false).getD i false = false := fun i => by
    by_cases h : i < l.length <;> simp [h]
  obtain ⟨ρv, st, heq⟩ := st_of_run (P := P) (C := C) (Q := Q) (L := fun i => (Array.replicate l.toArray.size false).getD i false) (s := 0) ok
    (fun i o _ h => by simp only [hL] at h; cases h) (fun i o _ h => by simp only [hL] at h; cases h)
    (fun i o _ _ => by simp only [hL]; simp) (Nat.zero_le _) h
  refine draw_any ok hes hel _ _ ρ ρv 0 hs _ (by simp) ?_ st (fun t ht => (heq t ht).symm) hi.drew
  rw [show l.toArray.size = (List.range l.length).length by simp]
  exact List.length_filter_le _ _

/-! ### its steps -/
theorem DNew.rd {hs : List Assn} {i : Nat} {r : List Nat} {K : Env → Prop} {d : Nat} {op : Op} {ty : TypeId} {pos : String} {af : Array Edge} {v : Value} {m : List (Nat × Value)} {ρ : Env}
    (ho : nthOp l i = some ⟨some d, op, ty, pos, af, none⟩) (h : Rd P C hs (ext m ρ) ⟨some d, op, ty, pos, af, none⟩ v) (k : DNew P C l hs r (ext ((d, v) :: m) ρ) K) : DNew P C l hs (i :: r) (ext m ρ) K :=
  ⟨_, d, v, ho, rfl, h, k⟩
theorem DNew.rdG {hs : List Assn} {i j t : Nat} {b want : Bool} {r : List Nat} {K : Env → Prop} {d : Nat} {op : Op} {ty : TypeId} {pos : String} {af : Array Edge} {v : Value} {m : List (Nat × Value)} {ρ : Env}
    (ho : nthOp l i = some ⟨some d, op, ty, pos, af, some (j, want)⟩) (hj : (nthOp l j).bind (·.dst) = some t) (hv : Ev C.n (ext m ρ) (.tmp t) (.bool b)) (hb : b = want)
    (h : Rd P C hs (ext m ρ) ⟨some d, op, ty, pos, af, some (j, want)⟩ v) (k : DNew P C l hs r (ext ((d, v) :: m) ρ) K) : DNew P C l hs (i :: r) (ext m ρ) K :=
  ⟨_, d, v, ho, rfl, ⟨t, some b, hj, hv, fun _ => h, fun e => absurd (by rw [hb]) e⟩, k⟩
theorem DNew.skG {hs : List Assn} {i j t : Nat} {b want : Bool} {r : List Nat} {K : Env → Prop} {d : Nat} {op : Op} {ty : TypeId} {pos : String} {af : Array Edge} {m : List (Nat × Value)} {ρ : Env}
    (ho : nthOp l i = some ⟨some d, op, ty, pos, af, some (j, want)⟩) (hj : (nthOp l j).bind (·.dst) = some t) (hv : Ev C.n (ext m ρ) (.tmp t) (.bool b)) (hb : b = !want)
    (k : DNew P C l hs r (ext ((d, undef) :: m) ρ) K) : DNew P C l hs (i :: r) (ext m ρ) K :=
  ⟨_, d, undef, ho, rfl, ⟨t, some b, hj, hv, fun e => (by subst hb; cases want <;> cases e), fun _ => rfl⟩, k⟩
theorem DNew.nil {hs : List Assn} {ρ : Env} {K : Env → Prop} (h : K ρ) : DNew P C l hs [] ρ K := h
theorem DCar.nil {hs : List Assn} {ρ : Env} : DCar P C l hs ρ [] := trivial
theorem DCar.rd {hs : List Assn} {i : Nat} {r : List Nat} {d : Nat} {op : Op} {ty : TypeId} {pos : String} {af : Array Edge} {v : Value} {ρ : Env}
    (ho : nthOp l i = some ⟨some d, op, ty, pos, af, none⟩) (hv : ρ d = v) (h : Rd P C hs ρ ⟨some d, op, ty, pos, af, none⟩ v) (k : DCar P C l hs ρ r) : DCar P C l hs ρ (i :: r) :=
  ⟨⟨_, d, ho, rfl, by rw [hv]; exact h⟩, k⟩
theorem DRun.ef {hs : List Assn} {e s : Nat} {es : List Nat} {d : Nat} {op : Op} {ty : TypeId} {pos : String} {af : Array Edge} {m : List (Nat × Value)} {ρ : Env}
    (ho : nthOp l e = some ⟨some d, op, ty, pos, af, none⟩) (h : Ef P C hs (ext m ρ) ⟨some d, op, ty, pos, af, none⟩ fun v hs' => DRun P C l lv Q es s (ext ((d, v) :: m) ρ) hs') :
    ∃ o, nthOp l e = some o ∧ EfAt P C l hs (ext m ρ) o fun v hs' => DRun P C l lv Q es s (putd o.dst v (ext m ρ)) hs' := ⟨_, ho, h⟩
theorem DRun.ef0 {hs : List Assn} {e s : Nat} {es : List Nat} {op : Op} {ty : TypeId} {pos : String} {af : Array Edge} {ρ : Env}
    (ho : nthOp l e = some ⟨none, op, ty, pos, af, none⟩) (h : Ef P C hs ρ ⟨none, op, ty, pos, af, none⟩ fun _ hs' => DRun P C l lv Q es s ρ hs') :
    ∃ o, nthOp l e = some o ∧ EfAt P C l hs ρ o fun v hs' => DRun P C l lv Q es s (putd o.dst v ρ) hs' := ⟨_, ho, h⟩
theorem DRun.efG {hs : List Assn} {e s j t : Nat} {b want : Bool} {es : List Nat} {d : Nat} {op : Op} {ty : TypeId} {pos : String} {af : Array Edge} {m : List (Nat × Value)} {ρ : Env}
    (ho : nthOp l e = some ⟨some d, op, ty, pos, af, some (j, want)⟩) (hj : (nthOp l j).bind (·.dst) = some t) (hv : Ev C.n (ext m ρ) (.tmp t) (.bool b)) (hb : b = want)
    (h : Ef P C hs (ext m ρ) ⟨some d, op, ty, pos, af, some (j, want)⟩ fun v hs' => DRun P C l lv Q es s (ext ((d, v) :: m) ρ) hs') :
    ∃ o, nthOp l e = some o ∧ EfAt P C l hs (ext m ρ) o fun v hs' => DRun P C l lv Q es s (putd o.dst v (ext m ρ)) hs' := ⟨_, ho, t, some b, hj, hv, fun _ => h, fun e => absurd (by rw [hb]) e⟩
theorem DRun.skG {hs : List Assn} {e s j t : Nat} {b want : Bool} {es : List Nat} {d : Nat} {op : Op} {ty : TypeId} {pos : String} {af : Array Edge} {m : List (Nat × Value)} {ρ : Env}
    (ho : nthOp l e = some ⟨some d, op, ty, pos, af, some (j, want)⟩) (hj : (nthOp l j).bind (·.dst) = some t) (hv : Ev C.n (ext m ρ) (.tmp t) (.bool b)) (hb : b = !want)
    (h : DRun P C l lv Q es s (ext ((d, undef) :: m) ρ) hs) :
    ∃ o, nthOp l e = some o ∧ EfAt P C l hs (ext m ρ) o fun v hs' => DRun P C l lv Q es s (putd o.dst v (ext m ρ)) hs' := ⟨_, ho, t, some b, hj, hv, fun e => (by subst hb; cases want <;> cases e), fun _ => h⟩
end

end Go.Proofs.YtbhladkbnleeoaaGreat

namespace Go.Proofs.YtbhladkbnleeoaaGreat

theorem lkS {a : Nat × Value} {m : List (Nat × Value)} {ρ : Env} {t : Nat} (h : Nat.beq t a.1 = false) : ext (a :: m) ρ t = ext m ρ t :=
  if_neg fun e => by rw [e] at h; simp at h
def nq (t : Nat) : List (Nat × Value) → Bool
  | [] => false
  | a :: l => Nat.beq t a.1 || nq t l
section
variable {a b c d e f g i j k l o p q r s u w x y z A B D E F G H I J K L M N O Q R S T U V W X Y Z aa ab ba bb ca cb da db ea eb fa fb ga gb ia ib ja jb ka : Nat × Value} {n t : Nat} {v : Value} {m : List (Nat × Value)} {ρ : Env}
theorem lkg : ∀ (l : List (Nat × Value)), nq t l = false → ext (l ++ (t, v) :: m) ρ t = v
  | [], _ => if_pos rfl
  | x :: l, h => by
    have h1 : Nat.beq t x.1 = false ∧ nq t l = false := by simpa [nq] using h
    exact (lkS h1.1).trans (lkg l h1.2)
def lq (n t : Nat) (l : List (Nat × Value)) : Bool := Nat.blt t n && !nq t l
theorem evg (l : List (Nat × Value)) (h : lq n t l = true) : Ev n (ext (l ++ (t, v) :: m) ρ) (.tmp t) v := by
  have h1 : Nat.blt t n = true ∧ nq t l = false := by simpa [lq] using h
  exact Ev.t h1.1 (lkg l h1.2)
theorem lk0 : ext ((t, v) :: m) ρ t = v := if_pos rfl
theorem t0 (hn : Nat.blt t n = true) : Ev n (ext ((t, v) :: m) ρ) (.tmp t) v := Ev.t hn lk0
theorem lk1 (h : nq t [a] = false) : ext (a::(t,v)::m) ρ t = v := lkg _ h
theorem t1 (h : lq n t [a] = true) : Ev n (ext (a::(t,v)::m) ρ) (.tmp t) v := evg _ h
theorem lk2 (h : nq t [a,b] = false) : ext (a::b::(t,v)::m) ρ t = v := lkg _ h
theorem t2 (h : lq n t [a,b] = true) : Ev n (ext (a::b::(t,v)::m) ρ) (.tmp t) v := evg _ h
theorem lk3 (h : nq t [a,b,c] = false) : ext (a::b::c::(t,v)::m) ρ t = v := lkg _ h
theorem t3 (h : lq n t [a,b,c] = true) : Ev n (ext (a::b::c::(t,v)::m) ρ) (.tmp t) v := evg _ h
theorem lk4 (h : nq t [a,b,c,d] = false) : ext (a::b::c::d::(t,v)::m) ρ t = v := lkg _ h
theorem t4 (h : lq n t [a,b,c,d] = true) : Ev n (ext (a::b::c::d::(t,v)::m) ρ) (.tmp t) v := evg _ h
theorem lk5 (h : nq t [a,b,c,d,e] = false) : ext (a::b::c::d::e::(t,v)::m) ρ t = v := lkg _ h
theorem t5 (h : lq n t [a,b,c,d,e] = true) : Ev n (ext (a::b::c::d::e::(t,v)::m) ρ) (.tmp t) v := evg _ h
theorem lk6 (h : nq t [a,b,c,d,e,f] = false) : ext (a::b::c::d::e::f::(t,v)::m) ρ t = v := lkg _ h
theorem t6 (h : lq n t [a,b,c,d,e,f] = true) : Ev n (ext (a::b::c::d::e::f::(t,v)::m) ρ) (.tmp t) v := evg _ h
theorem lk7 (h : nq t [a,b,c,d,e,f,g] = false) : ext (a::b::c::d::e::f::g::(t,v)::m) ρ t = v := lkg _ h
theorem t7 (h : lq n t [a,b,c,d,e,f,g] = true) : Ev n (ext (a::b::c::d::e::f::g::(t,v)::m) ρ) (.tmp t) v := evg _ h
theorem lk8 (h : nq t [a,b,c,d,e,f,g,i] = false) : ext (a::b::c::d::e::f::g::i::(t,v)::m) ρ t = v := lkg _ h
theorem t8 (h : lq n t [a,b,c,d,e,f,g,i] = true) : Ev n (ext (a::b::c::d::e::f::g::i::(t,v)::m) ρ) (.tmp t) v := evg _ h
theorem lk9 (h : nq t [a,b,c,d,e,f,g,i,j] = false) : ext (a::b::c::d::e::f::g::i::j::(t,v)::m) ρ t = v := lkg _ h
theorem t9 (h : lq n t [a,b,c,d,e,f,g,i,j] = true) : Ev n (ext (a::b::c::d::e::f::g::i::j::(t,v)::m) ρ) (.tmp t) v := evg _ h
theorem lk10 (h : nq t [a,b,c,d,e,f,g,i,j,k] = false) : ext (a::b::c::d::e::f::g::i::j::k::(t,v)::m) ρ t = v := lkg _ h
theorem t10 (h : lq n t [a,b,c,d,e,f,g,i,j,k] = true) : Ev n (ext (a::b::c::d::e::f::g::i::j::k::(t,v)::m) ρ) (.tmp t) v := evg _ h
theorem lk11 (h : nq t [a,b,c,d,e,f,g,i,j,k,l] = false) : ext (a::b::c::d::e::f::g::i::j::k::l::(t,v)::m) ρ t = v := lkg _ h
theorem t11 (h : lq n t [a,b,c,d,e,f,g,i,j,k,l] = true) : Ev n (ext (a::b::c::d::e::f::g::i::j::k::l::(t,v)::m) ρ) (.tmp t) v := evg _ h
theorem lk12 (h : nq t [a,b,c,d,e,f,g,i,j,k,l,o] = false) : ext (a::b::c::d::e::f::g::i::j::k::l::o::(t,v)::m) ρ t = v := lkg _ h
theorem t12 (h : lq n t [a,b,c,d,e,f,g,i,j,k,l,o] = true) : Ev n (ext (a::b::c::d::e::f::g::i::j::k::l::o::(t,v)::m) ρ) (.tmp t) v := evg _ h
theorem lk13 (h : nq t [a,b,c,d,e,f,g,i,j,k,l,o,p] = false) : ext (a::b::c::d::e::f::g::i::j::k::l::o::p::(t,v)::m) ρ t = v := lkg _ h
theorem t13 (h : lq n t [a,b,c,d,e,f,g,i,j,k,l,o,p] = true) : Ev n (ext (a::b::c::d::e::f::g::i::j::k::l::o::p::(t,v)::m) ρ) (.tmp t) v := evg _ h
theorem lk14 (h : nq t [a,b,c,d,e,f,g,i,j,k,l,o,p,q] = false) : ext (a::b::c::d::e::f::g::i::j::k::l::o::p::q::(t,v)::m) ρ t = v := lkg _ h
theorem t14 (h : lq n t [a,b,c,d,e,f,g,i,j,k,l,o,p,q] = true) : Ev n (ext (a::b::c::d::e::f::g::i::j::k::l::o::p::q::(t,v)::m) ρ) (.tmp t) v := evg _ h
theorem lk15 (h : nq t [a,b,c,d,e,f,g,i,j,k,l,o,p,q,r] = false) : ext (a::b::c::d::e::f::g::i::j::k::l::o::p::q::r::(t,v)::m) ρ t = v := lkg _ h
theorem t15 (h : lq n t [a,b,c,d,e,f,g,i,j,k,l,o,p,q,r] = true) : Ev n (ext (a::b::c::d::e::f::g::i::j::k::l::o::p::q::r::(t,v)::m) ρ) (.tmp t) v := evg _ h
theorem lk16 (h : nq t [a,b,c,d,e,f,g,i,j,k,l,o,p,q,r,s] = false) : ext (a::b::c::d::e::f::g::i::j::k::l::o::p::q::r::s::(t,v)::m) ρ t = v := lkg _ h
theorem t16 (h : lq n t [a,b,c,d,e,f,g,i,j,k,l,o,p,q,r,s] = true) : Ev n (ext (a::b::c::d::e::f::g::i::j::k::l::o::p::q::r::s::(t,v)::m) ρ) (.tmp t) v := evg _ h
theorem lk17 (h : nq t [a,b,c,d,e,f,g,i,j,k,l,o,p,q,r,s,u] = false) : ext (a::b::c::d::e::f::g::i::j::k::l::o::p::q::r::s::u::(t,v)::m) ρ t = v := lkg _ h
theorem t17 (h : lq n t [a,b,c,d,e,f,g,i,j,k,l,o,p,q,r,s,u] = true) : Ev n (ext (a::b::c::d::e::f::g::i::j::k::l::o::p::q::r::s::u::(t,v)::m) ρ) (.tmp t) v := evg _ h
theorem lk18 (h : nq t [a,b,c,d,e,f,g,i,j,k,l,o,p,q,r,s,u,w] = false) : ext (a::b::c::d::e::f::g::i::j::k::l::o::p::q::r::s::u::w::(t,v)::m) ρ t = v := lkg _ h
theorem t18 (h : lq n t [a,b,c,d,e,f,g,i,j,k,l,o,p,q,r,s,u,w] = true) : Ev n (ext (a::b::c::d::e::f::g::i::j::k::l::o::p::q::r::s::u::w::(t,v)::m) ρ) (.tmp t) v := evg _ h
theorem lk19 (h : nq t [a,b,c,d,e,f,g,i,j,k,l,o,p,q,r,s,u,w,x] = false) : ext (a::b::c::d::e::f::g::i::j::k::l::o::p::q::r::s::u::w::x::(t,v)::m) ρ t = v := lkg _ h
theorem t19 (h : lq n t [a,b,c,d,e,f,g,i,j,k,l,o,p,q,r,s,u,w,x] = true) : Ev n (ext (a::b::c::d::e::f::g::i::j::k::l::o::p::q::r::s::u::w::x::(t,v)::m) ρ) (.tmp t) v := evg _ h
theorem lk20 (h : nq t [a,b,c,d,e,f,g,i,j,k,l,o,p,q,r,s,u,w,x,y] = false) : ext (a::b::c::d::e::f::g::i::j::k::l::o::p::q::r::s::u::w::x::y::(t,v)::m) ρ t = v := lkg _ h
theorem t20 (h : lq n t [a,b,c,d,e,f,g,i,j,k,l,o,p,q,r,s,u,w,x,y] = true) : Ev n (ext (a::b::c::d::e::f::g::i::j::k::l::o::p::q::r::s::u::w::x::y::(t,v)::m) ρ) (.tmp t) v := evg _ h
theorem lk21 (h : nq t [a,b,c,d,e,f,g,i,j,k,l,o,p,q,r,s,u,w,x,y,z] = false) : ext (a::b::c::d::e::f::g::i::j::k::l::o::p::q::r::s::u::w::x::y::z::(t,v)::m) ρ t = v := lkg _ h
theorem t21 (h : lq n t [a,b,c,d,e,f,g,i,j,k,l,o,p,q,r,s,u,w,x,y,z] = true) : Ev n (ext (a::b::c::d::e::f::g::i::j::k::l::o::p::q::r::s::u::w::x::y::z::(t,v)::m) ρ) (.tmp t) v := evg _ h
theorem lk22 (h : nq t [a,b,c,d,e,f,g,i,j,k,l,o,p,q,r,s,u,w,x,y,z,A] = false) : ext (a::b::c::d::e::f::g::i::j::k::l::o::p::q::r::s::u::w::x::y::z::A::(t,v)::m) ρ t = v := lkg _ h
theorem t22 (h : lq n t [a,b,c,d,e,f,g,i,j,k,l,o,p,q,r,s,u,w,x,y,z,A] = true) : Ev n (ext (a::b::c::d::e::f::g::i::j::k::l::o::p::q::r::s::u::w::x::y::z::A::(t,v)::m) ρ) (.tmp t) v := evg _ h
theorem lk23 (h : nq t [a,b,c,d,e,f,g,i,j,k,l,o,p,q,r,s,u,w,x,y,z,A,B] = false) : ext (a::b::c::d::e::f::g::i::j::k::l::o::p::q::r::s::u::w::x::y::z::A::B::(t,v)::m) ρ t = v := lkg _ h
theorem t23 (h : lq n t [a,b,c,d,e,f,g,i,j,k,l,o,p,q,r,s,u,w,x,y,z,A,B] = true) : Ev n (ext (a::b::c::d::e::f::g::i::j::k::l::o::p::q::r::s::u::w::x::y::z::A::B::(t,v)::m) ρ) (.tmp t) v := evg _ h
theorem lk24 (h : nq t [a,b,c,d,e,f,g,i,j,k,l,o,p,q,r,s,u,w,x,y,z,A,B,D] = false) : ext (a::b::c::d::e::f::g::i::j::k::l::o::p::q::r::s::u::w::x::y::z::A::B::D::(t,v)::m) ρ t = v := lkg _ h
theorem t24 (h : lq n t [a,b,c,d,e,f,g,i,j,k,l,o,p,q,r,s,u,w,x,y,z,A,B,D] = true) : Ev n (ext (a::b::c::d::e::f::g::i::j::k::l::o::p::q::r::s::u::w::x::y::z::A::B::D::(t,v)::m) ρ) (.tmp t) v := evg _ h
theorem lk25 (h : nq t [a,b,c,d,e,f,g,i,j,k,l,o,p,q,r,s,u,w,x,y,z,A,B,D,E] = false) : ext (a::b::c::d::e::f::g::i::j::k::l::o::p::q::r::s::u::w::x::y::z::A::B::D::E::(t,v)::m) ρ t = v := lkg _ h
theorem t25 (h : lq n t [a,b,c,d,e,f,g,i,j,k,l,o,p,q,r,s,u,w,x,y,z,A,B,D,E] = true) : Ev n (ext (a::b::c::d::e::f::g::i::j::k::l::o::p::q::r::s::u::w::x::y::z::A::B::D::E::(t,v)::m) ρ) (.tmp t) v := evg _ h
theorem lk26 (h : nq t [a,b,c,d,e,f,g,i,j,k,l,o,p,q,r,s,u,w,x,y,z,A,B,D,E,F] = false) : ext (a::b::c::d::e::f::g::i::j::k::l::o::p::q::r::s::u::w::x::y::z::A::B::D::E::F::(t,v)::m) ρ t = v := lkg _ h
theorem t26 (h : lq n t [a,b,c,d,e,f,g,i,j,k,l,o,p,q,r,s,u,w,x,y,z,A,B,D,E,F] = true) : Ev n (ext (a::b::c::d::e::f::g::i::j::k::l::o::p::q::r::s::u::w::x::y::z::A::B::D::E::F::(t,v)::m) ρ) (.tmp t) v := evg _ h
theorem lk27 (h : nq t [a,b,c,d,e,f,g,i,j,k,l,o,p,q,r,s,u,w,x,y,z,A,B,D,E,F,G] = false) : ext (a::b::c::d::e::f::g::i::j::k::l::o::p::q::r::s::u::w::x::y::z::A::B::D::E::F::G::(t,v)::m) ρ t = v := lkg _ h
theorem t27 (h : lq n t [a,b,c,d,e,f,g,i,j,k,l,o,p,q,r,s,u,w,x,y,z,A,B,D,E,F,G] = true) : Ev n (ext (a::b::c::d::e::f::g::i::j::k::l::o::p::q::r::s::u::w::x::y::z::A::B::D::E::F::G::(t,v)::m) ρ) (.tmp t) v := evg _ h
theorem lk28 (h : nq t [a,b,c,d,e,f,g,i,j,k,l,o,p,q,r,s,u,w,x,y,z,A,B,D,E,F,G,H] = false) : ext (a::b::c::d::e::f::g::i::j::k::l::o::p::q::r::s::u::w::x::y::z::A::B::D::E::F::G::H::(t,v)::m) ρ t = v := lkg _ h
theorem t28 (h : lq n t [a,b,c,d,e,f,g,i,j,k,l,o,p,q,r,s,u,w,x,y,z,A,B,D,E,F,G,H] = true) : Ev n (ext (a::b::c::d::e::f::g::i::j::k::l::o::p::q::r::s::u::w::x::y::z::A::B::D::E::F::G::H::(t,v)::m) ρ) (.tmp t) v := evg _ h
theorem lk29 (h : nq t [a,b,c,d,e,f,g,i,j,k,l,o,p,q,r,s,u,w,x,y,z,A,B,D,E,F,G,H,I] = false) : ext (a::b::c::d::e::f::g::i::j::k::l::o::p::q::r::s::u::w::x::y::z::A::B::D::E::F::G::H::I::(t,v)::m) ρ t = v := lkg _ h
theorem t29 (h : lq n t [a,b,c,d,e,f,g,i,j,k,l,o,p,q,r,s,u,w,x,y,z,A,B,D,E,F,G,H,I] = true) : Ev n (ext (a::b::c::d::e::f::g::i::j::k::l::o::p::q::r::s::u::w::x::y::z::A::B::D::E::F::G::H::I::(t,v)::m) ρ) (.tmp t) v := evg _ h
theorem lk30 (h : nq t [a,b,c,d,e,f,g,i,j,k,l,o,p,q,r,s,u,w,x,y,z,A,B,D,E,F,G,H,I,J] = false) : ext (a::b::c::d::e::f::g::i::j::k::l::o::p::q::r::s::u::w::x::y::z::A::B::D::E::F::G::H::I::J::(t,v)::m) ρ t = v := lkg _ h
theorem t30 (h : lq n t [a,b,c,d,e,f,g,i,j,k,l,o,p,q,r,s,u,w,x,y,z,A,B,D,E,F,G,H,I,J] = true) : Ev n (ext (a::b::c::d::e::f::g::i::j::k::l::o::p::q::r::s::u::w::x::y::z::A::B::D::E::F::G::H::I::J::(t,v)::m) ρ) (.tmp t) v := evg _ h
theorem lk31 (h : nq t [a,b,c,d,e,f,g,i,j,k,l,o,p,q,r,s,u,w,x,y,z,A,B,D,E,F,G,H,I,J,K] = false) : ext (a::b::c::d::e::f::g::i::j::k::l::o::p::q::r::s::u::w::x::y::z::A::B::D::E::F::G::H::I::J::K::(t,v)::m) ρ t = v := lkg _ h
theorem t31 (h : lq n t [a,b,c,d,e,f,g,i,j,k,l,o,p,q,r,s,u,w,x,y,z,A,B,D,E,F,G,H,I,J,K] = true) : Ev n (ext (a::b::c::d::e::f::g::i::j::k::l::o::p::q::r::s::u::w::x::y::z::A::B::D::E::F::G::H::I::J::K::(t,v)::m) ρ) (.tmp t) v := evg _ h
theorem lk32 (h : nq t [a,b,c,d,e,f,g,i,j,k,l,o,p,q,r,s,u,w,x,y,z,A,B,D,E,F,G,H,I,J,K,L] = false) : ext (a::b::c::d::e::f::g::i::j::k::l::o::p::q::r::s::u::w::x::y::z::A::B::D::E::F::G::H::I::J::K::L::(t,v)::m) ρ t = v := lkg _ h
theorem t32 (h : lq n t [a,b,c,d,e,f,g,i,j,k,l,o,p,q,r,s,u,w,x,y,z,A,B,D,E,F,G,H,I,J,K,L] = true) : Ev n (ext (a::b::c::d::e::f::g::i::j::k::l::o::p::q::r::s::u::w::x::y::z::A::B::D::E::F::G::H::I::J::K::L::(t,v)::m) ρ) (.tmp t) v := evg _ h
theorem lk33 (h : nq t [a,b,c,d,e,f,g,i,j,k,l,o,p,q,r,s,u,w,x,y,z,A,B,D,E,F,G,H,I,J,K,L,M] = false) : ext (a::b::c::d::e::f::g::i::j::k::l::o::p::q::r::s::u::w::x::y::z::A::B::D::E::F::G::H::I::J::K::L::M::(t,v)::m) ρ t = v := lkg _ h
theorem lk34 (h : nq t [a,b,c,d,e,f,g,i,j,k,l,o,p,q,r,s,u,w,x,y,z,A,B,D,E,F,G,H,I,J,K,L,M,N] = false) : ext (a::b::c::d::e::f::g::i::j::k::l::o::p::q::r::s::u::w::x::y::z::A::B::D::E::F::G::H::I::J::K::L::M::N::(t,v)::m) ρ t = v := lkg _ h
theorem t34 (h : lq n t [a,b,c,d,e,f,g,i,j,k,l,o,p,q,r,s,u,w,x,y,z,A,B,D,E,F,G,H,I,J,K,L,M,N] = true) : Ev n (ext (a::b::c::d::e::f::g::i::j::k::l::o::p::q::r::s::u::w::x::y::z::A::B::D::E::F::G::H::I::J::K::L::M::N::(t,v)::m) ρ) (.tmp t) v := evg _ h
theorem lk35 (h : nq t [a,b,c,d,e,f,g,i,j,k,l,o,p,q,r,s,u,w,x,y,z,A,B,D,E,F,G,H,I,J,K,L,M,N,O] = false) : ext (a::b::c::d::e::f::g::i::j::k::l::o::p::q::r::s::u::w::x::y::z::A::B::D::E::F::G::H::I::J::K::L::M::N::O::(t,v)::m) ρ t = v := lkg _ h
theorem t35 (h : lq n t [a,b,c,d,e,f,g,i,j,k,l,o,p,q,r,s,u,w,x,y,z,A,B,D,E,F,G,H,I,J,K,L,M,N,O] = true) : Ev n (ext (a::b::c::d::e::f::g::i::j::k::l::o::p::q::r::s::u::w::x::y::z::A::B::D::E::F::G::H::I::J::K::L::M::N::O::(t,v)::m) ρ) (.tmp t) v := evg _ h
theorem lk36 (h : nq t [a,b,c,d,e,f,g,i,j,k,l,o,p,q,r,s,u,w,x,y,z,A,B,D,E,F,G,H,I,J,K,L,M,N,O,Q] = false) : ext (a::b::c::d::e::f::g::i::j::k::l::o::p::q::r::s::u::w::x::y::z::A::B::D::E::F::G::H::I::J::K::L::M::N::O::Q::(t,v)::m) ρ t = v := lkg _ h
theorem t36 (h : lq n t [a,b,c,d,e,f,g,i,j,k,l,o,p,q,r,s,u,w,x,y,z,A,B,D,E,F,G,H,I,J,K,L,M,N,O,Q] = true) : Ev n (ext (a::b::c::d::e::f::g::i::j::k::l::o::p::q::r::s::u::w::x::y::z::A::B::D::E::F::G::H::I::J::K::L::M::N::O::Q::(t,v)::m) ρ) (.tmp t) v := evg _ h
theorem lk37 (h : nq t [a,b,c,d,e,f,g,i,j,k,l,o,p,q,r,s,u,w,x,y,z,A,B,D,E,F,G,H,I,J,K,L,M,N,O,Q,R] = false) : ext (a::b::c::d::e::f::g::i::j::k::l::o::p::q::r::s::u::w::x::y::z::A::B::D::E::F::G::H::I::J::K::L::M::N::O::Q::R::(t,v)::m) ρ t = v := lkg _ h
theorem lk38 (h : nq t [a,b,c,d,e,f,g,i,j,k,l,o,p,q,r,s,u,w,x,y,z,A,B,D,E,F,G,H,I,J,K,L,M,N,O,Q,R,S] = false) : ext (a::b::c::d::e::f::g::i::j::k::l::o::p::q::r::s::u::w::x::y::z::A::B::D::E::F::G::H::I::J::K::L::M::N::O::Q::R::S::(t,v)::m) ρ t = v := lkg _ h
theorem t38 (h : lq n t [a,b,c,d,e,f,g,i,j,k,l,o,p,q,r,s,u,w,x,y,z,A,B,D,E,F,G,H,I,J,K,L,M,N,O,Q,R,S] = true) : Ev n (ext (a::b::c::d::e::f::g::i::j::k::l::o::p::q::r::s::u::w::x::y::z::A::B::D::E::F::G::H::I::J::K::L::M::N::O::Q::R::S::(t,v)::m) ρ) (.tmp t) v := evg _ h
theorem lk39 (h : nq t [a,b,c,d,e,f,g,i,j,k,l,o,p,q,r,s,u,w,x,y,z,A,B,D,E,F,G,H,I,J,K,L,M,N,O,Q,R,S,T] = false) : ext (a::b::c::d::e::f::g::i::j::k::l::o::p::q::r::s::u::w::x::y::z::A::B::D::E::F::G::H::I::J::K::L::M::N::O::Q::R::S::T::(t,v)::m) ρ t = v := lkg _ h
theorem lk40 (h : nq t [a,b,c,d,e,f,g,i,j,k,l,o,p,q,r,s,u,w,x,y,z,A,B,D,E,F,G,H,I,J,K,L,M,N,O,Q,R,S,T,U] = false) : ext (a::b::c::d::e::f::g::i::j::k::l::o::p::q::r::s::u::w::x::y::z::A::B::D::E::F::G::H::I::J::K::L::M::N::O::Q::R::S::T::U::(t,v)::m) ρ t = v := lkg _ h
theorem lk41 (h : nq t [a,b,c,d,e,f,g,i,j,k,l,o,p,q,r,s,u,w,x,y,z,A,B,D,E,F,G,H,I,J,K,L,M,N,O,Q,R,S,T,U,V] = false) : ext (a::b::c::d::e::f::g::i::j::k::l::o::p::q::r::s::u::w::x::y::z::A::B::D::E::F::G::H::I::J::K::L::M::N::O::Q::R::S::T::U::V::(t,v)::m) ρ t = v := lkg _ h
theorem t41 (h : lq n t [a,b,c,d,e,f,g,i,j,k,l,o,p,q,r,s,u,w,x,y,z,A,B,D,E,F,G,H,I,J,K,L,M,N,O,Q,R,S,T,U,V] = true) : Ev n (ext (a::b::c::d::e::f::g::i::j::k::l::o::p::q::r::s::u::w::x::y::z::A::B::D::E::F::G::H::I::J::K::L::M::N::O::Q::R::S::T::U::V::(t,v)::m) ρ) (.tmp t) v := evg _ h
theorem lk42 (h : nq t [a,b,c,d,e,f,g,i,j,k,l,o,p,q,r,s,u,w,x,y,z,A,B,D,E,F,G,H,I,J,K,L,M,N,O,Q,R,S,T,U,V,W] = false) : ext (a::b::c::d::e::f::g::i::j::k::l::o::p::q::r::s::u::w::x::y::z::A::B::D::E::F::G::H::I::J::K::L::M::N::O::Q::R::S::T::U::V::W::(t,v)::m) ρ t = v := lkg _ h
theorem lk43 (h : nq t [a,b,c,d,e,f,g,i,j,k,l,o,p,q,r,s,u,w,x,y,z,A,B,D,E,F,G,H,I,J,K,L,M,N,O,Q,R,S,T,U,V,W,X] = false) : ext (a::b::c::d::e::f::g::i::j::k::l::o::p::q::r::s::u::w::x::y::z::A::B::D::E::F::G::H::I::J::K::L::M::N::O::Q::R::S::T::U::V::W::X::(t,v)::m) ρ t = v := lkg _ h
theorem lk44 (h : nq t [a,b,c,d,e,f,g,i,j,k,l,o,p,q,r,s,u,w,x,y,z,A,B,D,E,F,G,H,I,J,K,L,M,N,O,Q,R,S,T,U,V,W,X,Y] = false) : ext (a::b::c::d::e::f::g::i::j::k::l::o::p::q::r::s::u::w::x::y::z::A::B::D::E::F::G::H::I::J::K::L::M::N::O::Q::R::S::T::U::V::W::X::Y::(t,v)::m) ρ t = v := lkg _ h
theorem t44 (h : lq n t [a,b,c,d,e,f,g,i,j,k,l,o,p,q,r,s,u,w,x,y,z,A,B,D,E,F,G,H,I,J,K,L,M,N,O,Q,R,S,T,U,V,W,X,Y] = true) : Ev n (ext (a::b::c::d::e::f::g::i::j::k::l::o::p::q::r::s::u::w::x::y::z::A::B::D::E::F::G::H::I::J::K::L::M::N::O::Q::R::S::T::U::V::W::X::Y::(t,v)::m) ρ) (.tmp t) v := evg _ h
theorem lk45 (h : nq t [a,b,c,d,e,f,g,i,j,k,l,o,p,q,r,s,u,w,x,y,z,A,B,D,E,F,G,H,I,J,K,L,M,N,O,Q,R,S,T,U,V,W,X,Y,Z] = false) : ext (a::b::c::d::e::f::g::i::j::k::l::o::p::q::r::s::u::w::x::y::z::A::B::D::E::F::G::H::I::J::K::L::M::N::O::Q::R::S::T::U::V::W::X::Y::Z::(t,v)::m) ρ t = v := lkg _ h
theorem lk46 (h : nq t [a,b,c,d,e,f,g,i,j,k,l,o,p,q,r,s,u,w,x,y,z,A,B,D,E,F,G,H,I,J,K,L,M,N,O,Q,R,S,T,U,V,W,X,Y,Z,aa] = false) : ext (a::b::c::d::e::f::g::i::j::k::l::o::p::q::r::s::u::w::x::y::z::A::B::D::E::F::G::H::I::J::K::L::M::N::O::Q::R::S::T::U::V::W::X::Y::Z::aa::(t,v)::m) ρ t = v := lkg _ h
theorem lk47 (h : nq t [a,b,c,d,e,f,g,i,j,k,l,o,p,q,r,s,u,w,x,y,z,A,B,D,E,F,G,H,I,J,K,L,M,N,O,Q,R,S,T,U,V,W,X,Y,Z,aa,ab] = false) : ext (a::b::c::d::e::f::g::i::j::k::l::o::p::q::r::s::u::w::x::y::z::A::B::D::E::F::G::H::I::J::K::L::M::N::O::Q::R::S::T::U::V::W::X::Y::Z::aa::ab::(t,v)::m) ρ t = v := lkg _ h
theorem lk48 (h : nq t [a,b,c,d,e,f,g,i,j,k,l,o,p,q,r,s,u,w,x,y,z,A,B,D,E,F,G,H,I,J,K,L,M,N,O,Q,R,S,T,U,V,W,X,Y,Z,aa,ab,ba] = false) : ext (a::b::c::d::e::f::g::i::j::k::l::o::p::q::r::s::u::w::x::y::z::A::B::D::E::F::G::H::I::J::K::L::M::N::O::Q::R::S::T::U::V::W::X::Y::Z::aa::ab::ba::(t,v)::m) ρ t = v := lkg _ h
theorem lk49 (h : nq t [a,b,c,d,e,f,g,i,j,k,l,o,p,q,r,s,u,w,x,y,z,A,B,D,E,F,G,H,I,J,K,L,M,N,O,Q,R,S,T,U,V,W,X,Y,Z,aa,ab,ba,bb] = false) : ext (a::b::c::d::e::f::g::i::j::k::l::o::p::q::r::s::u::w::x::y::z::A::B::D::E::F::G::H::I::J::K::L::M::N::O::Q::R::S::T::U::V::W::X::Y::Z::aa::ab::ba::bb::(t,v)::m) ρ t = v := lkg _ h
theorem lk51 (h : nq t [a,b,c,d,e,f,g,i,j,k,l,o,p,q,r,s,u,w,x,y,z,A,B,D,E,F,G,H,I,J,K,L,M,N,O,Q,R,S,T,U,V,W,X,Y,Z,aa,ab,ba,bb,ca,cb] = false) : ext (a::b::c::d::e::f::g::i::j::k::l::o::p::q::r::s::u::w::x::y::z::A::B::D::E::F::G::H::I::J::K::L::M::N::O::Q::R::S::T::U::V::W::X::Y::Z::aa::ab::ba::bb::ca::cb::(t,v)::m) ρ t = v := lkg _ h
theorem lk52 (h : nq t [a,b,c,d,e,f,g,i,j,k,l,o,p,q,r,s,u,w,x,y,z,A,B,D,E,F,G,H,I,J,K,L,M,N,O,Q,R,S,T,U,V,W,X,Y,Z,aa,ab,ba,bb,ca,cb,da] = false) : ext (a::b::c::d::e::f::g::i::j::k::l::o::p::q::r::s::u::w::x::y::z::A::B::D::E::F::G::H::I::J::K::L::M::N::O::Q::R::S::T::U::V::W::X::Y::Z::aa::ab::ba::bb::ca::cb::da::(t,v)::m) ρ t = v := lkg _ h
theorem lk53 (h : nq t [a,b,c,d,e,f,g,i,j,k,l,o,p,q,r,s,u,w,x,y,z,A,B,D,E,F,G,H,I,J,K,L,M,N,O,Q,R,S,T,U,V,W,X,Y,Z,aa,ab,ba,bb,ca,cb,da,db] = false) : ext (a::b::c::d::e::f::g::i::j::k::l::o::p::q::r::s::u::w::x::y::z::A::B::D::E::F::G::H::I::J::K::L::M::N::O::Q::R::S::T::U::V::W::X::Y::Z::aa::ab::ba::bb::ca::cb::da::db::(t,v)::m) ρ t = v := lkg _ h
theorem lk54 (h : nq t [a,b,c,d,e,f,g,i,j,k,l,o,p,q,r,s,u,w,x,y,z,A,B,D,E,F,G,H,I,J,K,L,M,N,O,Q,R,S,T,U,V,W,X,Y,Z,aa,ab,ba,bb,ca,cb,da,db,ea] = false) : ext (a::b::c::d::e::f::g::i::j::k::l::o::p::q::r::s::u::w::x::y::z::A::B::D::E::F::G::H::I::J::K::L::M::N::O::Q::R::S::T::U::V::W::X::Y::Z::aa::ab::ba::bb::ca::cb::da::db::ea::(t,v)::m) ρ t = v := lkg _ h
theorem lk55 (h : nq t [a,b,c,d,e,f,g,i,j,k,l,o,p,q,r,s,u,w,x,y,z,A,B,D,E,F,G,H,I,J,K,L,M,N,O,Q,R,S,T,U,V,W,X,Y,Z,aa,ab,ba,bb,ca,cb,da,db,ea,eb] = false) : ext (a::b::c::d::e::f::g::i::j::k::l::o::p::q::r::s::u::w::x::y::z::A::B::D::E::F::G::H::I::J::K::L::M::N::O::Q::R::S::T::U::V::W::X::Y::Z::aa::ab::ba::bb::ca::cb::da::db::ea::eb::(t,v)::m) ρ t = v := lkg _ h
theorem lk56 (h : nq t [a,b,c,d,e,f,g,i,j,k,l,o,p,q,r,s,u,w,x,y,z,A,B,D,E,F,G,H,I,J,K,L,M,N,O,Q,R,S,T,U,V,W,X,Y,Z,aa,ab,ba,bb,ca,cb,da,db,ea,eb,fa] = false) : ext (a::b::c::d::e::f::g::i::j::k::l::o::p::q::r::s::u::w::x::y::z::A::B::D::E::F::G::H::I::J::K::L::M::N::O::Q::R::S::T::U::V::W::X::Y::Z::aa::ab::ba::bb::ca::cb::da::db::ea::eb::fa::(t,v)::m) ρ t = v := lkg _ h
end

theorem J.condDT {P : Program} {C : Cx} {Q : Exit → Act → World → Prop} {ρ : Env} {hs : List Assn} {c : Operand} {x y : Code} {p : Prop} [Decidable p] (hv : Ev C.n ρ c (.bool (decide p))) (hp : p) (h : J P C x Q ρ hs) : J P C (.cond c x y) Q ρ hs :=
  J.condT (by rw [decide_eq_true hp] at hv; exact hv) h
theorem J.condDF {P : Program} {C : Cx} {Q : Exit → Act → World → Prop} {ρ : Env} {hs : List Assn} {c : Operand} {x y : Code} {p : Prop} [Decidable p] (hv : Ev C.n ρ c (.bool (decide p))) (hp : ¬ p) (h : J P C y Q ρ hs) : J P C (.cond c x y) Q ρ hs :=
  J.condF (by rw [decide_eq_false hp] at hv; exact hv) h
theorem Stars.sel {pre l rest : List Assn} (s : Sel pre l rest) {h : Frag} (t : Stars l h) : Stars pre h := by
  obtain ⟨h1, h2, a, b, c, rfl⟩ := Stars.append.1 (Stars.perm s.perm t)
  exact Stars.weak a c

theorem DRun.at {P : Program} {C : Cx} {l : List Oper} {lv : List Lv} {Q : Exit → Act → World → Prop} {e : Nat} {es : List Nat} {s : Nat} {ρ : Env} {hs : List Assn} (cs ns : List Nat)
    (hc : carAt lv l.length s = cs) (hn : newAt lv l.length s = ns) (car : DCar P C l hs ρ cs)
    (k : DNew P C l hs ns ρ fun ρ' => ∃ o, nthOp l e = some o ∧ EfAt P C l hs ρ' o fun v hs' => DRun P C l lv Q es (s + 1) (putd o.dst v ρ') hs') : DRun P C l lv Q (e :: es) s ρ hs :=
  ⟨by rw [hc]; exact car, by rw [hn]; exact k⟩
theorem DRun.end {P : Program} {C : Cx} {l : List Oper} {lv : List Lv} {Q : Exit → Act → World → Prop} {s : Nat} {ρ : Env} {hs : List Assn} (cs ns : List Nat)
    (hc : carAt lv l.length s = cs) (hn : newAt lv l.length s = ns) (car : DCar P C l hs ρ cs)
    (k : DNew P C l hs ns ρ fun ρ' => At C Q .normal ρ' hs) : DRun P C l lv Q [] s ρ hs :=
  ⟨by rw [hc]; exact car, by rw [hn]; exact k⟩

theorem w64 {z : Int} (h1 : -9223372036854775808 ≤ z) (h2 : z ≤ 9223372036854775807) : IntKind.i64.wrap z = z := IntWalk.i64_in z ⟨h1, by omega⟩
theorem w32 {z : Int} (h1 : 0 ≤ z) (h2 : z ≤ 4294967295) : IntKind.u32.wrap z = z := by
  simp only [IntKind.wrap, IntKind.bits, IntKind.signed]; simp; omega

end Go.Proofs.YtbhladkbnleeoaaGreat

namespace Go.Proofs.YtbhladkbnleeoaaGreat

theorem EvB {n : Nat} {ρ : Env} {x : Operand} {b c : Bool} (h : Ev n ρ x (.bool b)) (e : b = c) : Ev n ρ x (.bool c) := e ▸ h

section
variable {P : Program} {C : Cx} {ops : Array Oper} {Q : Exit → Act → World → Prop} {rest : List Oper} {ρ : Env} {hs : List Assn} {l : List Oper} {x : Operand}

theorem JL.caseB {b : Bool} (_hv : Ev C.n ρ x (.bool b)) (ht : b = true → JL P C ops Q rest ρ hs) (hf : b = false → JL P C ops Q rest ρ hs) : JL P C ops Q rest ρ hs := by
  cases b
  · exact hf rfl
  · exact ht rfl
theorem JL.caseD {p : Prop} [Decidable p] (_hv : Ev C.n ρ x (.bool (decide p))) (ht : p → decide p = true → JL P C ops Q rest ρ hs) (hf : ¬ p → decide p = false → JL P C ops Q rest ρ hs) : JL P C ops Q rest ρ hs := by
  by_cases h : p
  · exact ht h (decide_eq_true h)
  · exact hf h (decide_eq_false h)
theorem DNew.caseB {is : List Nat} {K : Env → Prop} {b : Bool} (_hv : Ev C.n ρ x (.bool b)) (ht : b = true → DNew P C l hs is ρ K) (hf : b = false → DNew P C l hs is ρ K) : DNew P C l hs is ρ K := by
  cases b
  · exact hf rfl
  · exact ht rfl
theorem DNew.caseD {is : List Nat} {K : Env → Prop} {p : Prop} [Decidable p] (_hv : Ev C.n ρ x (.bool (decide p))) (ht : p → decide p = true → DNew P C l hs is ρ K) (hf : ¬ p → decide p = false → DNew P C l hs is ρ K) : DNew P C l hs is ρ K := by
  by_cases h : p
  · exact ht h (decide_eq_true h)
  · exact hf h (decide_eq_false h)
end

section
variable {P : Program} {C : Cx} {hs : List Assn} {ρ : Env} {d : Option Tmp} {ty : TypeId} {pos : String} {af : Array Edge} {g : Option (Nat × Bool)} {K : Value → List Assn → Prop}
  {x y z : Operand} {v u : Value} {t : TypeId}

theorem Rd.extract {i : Nat} {vs : List Value} (h : Ev C.n ρ x (.tuple vs.toArray)) (hv : Nth i vs v) : Rd P C hs ρ ⟨d, .extract x i, ty, pos, af, g⟩ v :=
  Rd.ex (fun c h => by cases h) (Instr.extract (.tuple vs.toArray) i) (fun ds => by simp only [execOp, h ds]) fun w _ => by
    have := hv.get
    simp [Instr.extract, this]

theorem run_max2 {k k' : IntKind} {a b : Int} {w : World} : (Builtin.max2 (.int k a) (.int k' b)).run P w = .ok (.int k (max a b)) w := by
  show Result.ok (Value.int k (if b > a then b else a)) w = _
  have : (if b > a then b else a) = max a b := by split <;> omega
  rw [this]
theorem run_min2 {k k' : IntKind} {a b : Int} {w : World} : (Builtin.min2 (.int k a) (.int k' b)).run P w = .ok (.int k (min a b)) w := by
  show Result.ok (Value.int k (if b < a then b else a)) w = _
  have : (if b < a then b else a) = min a b := by split <;> omega
  rw [this]

theorem Rd.max2 {k : IntKind} {a b : Int} (h1 : Ev C.n ρ x (.int k a)) (h2 : Ev C.n ρ y (.int k b)) {ats : Array TypeId} :
    Rd P C hs ρ ⟨d, .call { callee := .builtin .max, args := #[x, y], argTypes := ats }, ty, pos, af, g⟩ (.int k (max a b)) :=
  Rd.of (fun c h => by cases h) fun w _ => by
    show (execOp (act C.n C.ds ρ).eval _).run P w = _
    simp [execOp, resolve, invoke, builtin, Builtin.max_, Result.andThen, h1 C.ds, h2 C.ds, run_max2]
theorem Rd.min2 {k : IntKind} {a b : Int} (h1 : Ev C.n ρ x (.int k a)) (h2 : Ev C.n ρ y (.int k b)) {ats : Array TypeId} :
    Rd P C hs ρ ⟨d, .call { callee := .builtin .min, args := #[x, y], argTypes := ats }, ty, pos, af, g⟩ (.int k (min a b)) :=
  Rd.of (fun c h => by cases h) fun w _ => by
    show (execOp (act C.n C.ds ρ).eval _).run P w = _
    simp [execOp, resolve, invoke, builtin, Builtin.min_, Result.andThen, h1 C.ds, h2 C.ds, run_min2]

/-- A result that lies in a variable: an array or a struct. -/
theorem ResV.cell {fn : Func} {b s : Nat} {cs : List Value} {e : TypeId} {fr : Nat × Nat} {p : Nat} (h : fn.results = #[.cell p t]) (ht : ∀ w, (isAgg t).run P w = .ok true w) (hz : ∀ w, (sizeOf t).run P w = .ok s w)
    (hp : Ev C.n ρ (.tmp p) (.pointer (some ⟨b, 0, none⟩))) (hb : Blk b (.cells cs.toArray e fr) hs) (hl : cs.length = s) : ResV P C fn ρ hs (.agg cs.toArray) := fun w hi => by
  have h1 := getD_act (ds := C.ds) hp
  simp only [Array.getD_eq_getD_getElem?] at h1
  have h2 : (loadVar t ⟨b, 0, none⟩).run P w = .ok (.agg cs.toArray) w := by
    simp only [loadVar, Sem.run_bind, Sem.run_pure, ht w, hz w, Result.andThen, if_true, run_loadRow (off := 0) (vs := cs) (hb.inv hi) (by rw [List.drop_zero, ← hl, List.take_length]) hl]
  simp [results, h, h1, asAddr, h2]
end

/-! ### composite values -/
inductive EvP (n : Nat) (ρ : Env) : List (Nat × Operand) → List (Nat × Value) → Prop
  | nil : EvP n ρ [] []
  | cons {i x v xs vs} : Ev n ρ x v → EvP n ρ xs vs → EvP n ρ ((i, x) :: xs) ((i, v) :: vs)

theorem EvP.map {n ρ} {xs : List (Nat × Operand)} {vs : List (Nat × Value)} (h : EvP n ρ xs vs) (ds) : xs.toArray.map (fun p => (p.1, (act n ds ρ).eval p.2)) = vs.toArray := by
  induction h with
  | nil => simp
  | cons h1 _ ih =>
    simp only [List.map_toArray] at ih ⊢
    have := h1 ds
    simp only [List.map_cons, this]
    simpa using ih

/-- How a struct of this type is built: its zero cells, its fields' places and sizes. -/
def Bld (P : Program) (t : TypeId) (zs : List Value) (pl : List (Nat × Nat)) : Prop := ∀ (parts : Array (Nat × Value)) (c : Array Value) w,
  Instr.fill (pl.toArray[·]?) zs.toArray parts.toList = some c → (Instr.build t parts).run P w = .ok (.agg c) w

theorem Bld.mk {P : Program} {t : TypeId} {zs : List Value} {pl : List (Nat × Nat)} {z : Value} {fs : Array Field} (hz : ∀ w, (zeroValue t).run P w = .ok z w) (hc : z.cells = zs.toArray)
    (hu : ∀ w, (underlying t).run P w = .ok (.struct fs) w) (hp : ∀ w, (fs.mapM fun f => do pure (f.offset, ← sizeOf f.type) : Sem (Array (Nat × Nat))).run P w = .ok pl.toArray w) : Bld P t zs pl := by
  intro parts c w h
  simp only [Instr.build, Sem.run_bind, hz w, hu w, hp w, Result.andThen, hc]
  rw [h]
  rfl

inductive FillN (pl : List (Nat × Nat)) : List Value → List (Nat × Value) → List Value → Prop
  | nil {z} : FillN pl z [] z
  | one {i off v z z' rest r} (hi : pl[i]? = some (off, 1)) (hv : v.oneCell' = true) (hs : SetN off v z z') (hr : FillN pl z' rest r) : FillN pl z ((i, v) :: rest) r
  | agg {i off s vs z rest r} (hi : pl[i]? = some (off, s)) (hl : vs.length = s) (hb : off + s ≤ z.length) (hr : FillN pl (splice z off vs) rest r) : FillN pl z ((i, .agg vs.toArray) :: rest) r

theorem foldl_splice : ∀ (vs : List Value) (cs : List Value) (off k : Nat), off + k + vs.length ≤ cs.length →
    (vs.zipIdx k).foldl (fun (c : Array Value) (p : Value × Nat) => c.setIfInBounds (off + p.2) p.1) cs.toArray = (splice cs (off + k) vs).toArray := by
  intro vs
  induction vs with
  | nil => intro cs off k _; simp [splice]
  | cons v vs ih =>
    intro cs off k h
    simp only [List.length_cons] at h
    simp only [List.zipIdx_cons, List.foldl_cons, List.setIfInBounds_toArray]
    rw [ih _ off (k + 1) (by simp; omega)]
    congr 1
    simp only [splice, List.length_cons]
    have e1 : List.take (off + (k + 1)) (cs.set (off + k) v) = List.take (off + k) cs ++ [v] := by
      rw [show off + (k + 1) = off + k + 1 by omega, List.take_succ_eq_append_getElem (by simp; omega)]
      simp [List.take_set_of_le]
    rw [e1, show off + (k + 1) + vs.length = off + k + (vs.length + 1) by omega, List.drop_set_of_lt (by omega)]
    simp

theorem FillN.run {pl : List (Nat × Nat)} {z : List Value} {vs : List (Nat × Value)} {r : List Value} (h : FillN pl z vs r) : Instr.fill (pl.toArray[·]?) z.toArray vs = some r.toArray := by
  have e : (fun i => pl.toArray[i]?) = fun i => pl[i]? := funext fun _ => List.getElem?_toArray
  show Instr.fill (fun i => pl.toArray[i]?) z.toArray vs = some r.toArray
  rw [e]
  induction h with
  | nil => rfl
  | @one i off v z z' rest r hi hv hs _ ih =>
    obtain ⟨rfl, hlt⟩ := hs.eq
    have hc : v.cells = #[v] := by cases v <;> first | rfl | exact absurd hv (by simp [Value.oneCell'])
    simp only [Instr.fill, hi, hc]
    have h1 : ¬ (#[v].size ≠ 1 ∨ off + #[v].size > z.toArray.size) := by simp; omega
    rw [if_neg (by simpa using h1)]
    simpa using ih
  | @agg i off s vs z rest r hi hl hb _ ih =>
    have hc : (Value.agg vs.toArray).cells = vs.toArray := rfl
    simp only [Instr.fill, hi, hc]
    have h1 : (decide (vs.toArray.size ≠ s) || decide (off + vs.toArray.size > z.toArray.size)) = false := by
      simp; omega
    rw [h1]
    have := foldl_splice vs z off 0 (by omega)
    simp only [Nat.add_zero] at this
    rw [← ih, ← this]
    simp

section
variable {P : Program} {C : Cx} {hs : List Assn} {ρ : Env} {d : Option Tmp} {ty : TypeId} {pos : String} {af : Array Edge} {g : Option (Nat × Bool)} {t : TypeId}
theorem Rd.buildS {parts : List (Nat × Operand)} {vs : List (Nat × Value)} {zs r : List Value} {pl : List (Nat × Nat)} (h : EvP C.n ρ parts vs) (hb : Bld P t zs pl) (hf : FillN pl zs vs r) :
    Rd P C hs ρ ⟨d, .build t parts.toArray, ty, pos, af, g⟩ (.agg r.toArray) :=
  Rd.build (h.map) fun w => hb _ _ w (by simpa using hf.run)
end

/-- An assertion that stands for several is opened. -/
theorem J.openA {P : Program} {C : Cx} {Q : Exit → Act → World → Prop} {ρ : Env} {rest : List Assn} {A : Assn} {c : Code} {X : Type} {p : X → Prop} {L : X → List Assn} (hA : ∀ h, A h → ∃ x, p x ∧ Stars (L x) h)
    (k : ∀ x, p x → J P C c Q ρ (L x ++ rest)) : J P C c Q ρ (A :: rest) := by
  rintro w ⟨h, ⟨h1, h2, a, s, cm, rfl⟩, b, f⟩
  obtain ⟨x, hp, s1⟩ := hA h1 a
  exact k x hp w ⟨_, Stars.append.2 ⟨h1, h2, s1, s, cm, rfl⟩, b, f⟩
theorem Stars.shut {A : Assn} {L rest : List Assn} {h : Frag} (hA : ∀ h, Stars L h → A h) (s : Stars (L ++ rest) h) : Stars (A :: rest) h := by
  obtain ⟨h1, h2, a, b, c, rfl⟩ := Stars.append.1 s
  exact ⟨h1, h2, hA h1 a, b, c, rfl⟩

/-! ### steps that often follow each other -/
theorem cA {α : Type} {a : α} {l m : List α} : a :: l ++ m = a :: (l ++ m) := rfl
theorem nA {α : Type} {l : List α} : [] ++ l = l := rfl
section
variable {P : Program} {C C' : Cx} {n n' : Nat} {r : Option Nat} {ds ds' : List Deferred} {h0 h0' : Frag} {w0 w0' : World} {Q : Exit → Act → World → Prop} {ρ : Env} {hs : List Assn} {ops : Array Oper} {y : Code} {id : Nat} {os : List Oper}
theorem J.sr (h : JL P C os.toArray (Then P C y Q) os ρ hs) : J P C (.seq (.region id os.toArray false) y) Q ρ hs := J.seq (J.region h)
theorem JL.n2 (h : J P ⟨n, r, ds, h0, w0⟩ y Q ρ hs) : JL P ⟨n, r, ds, h0, w0⟩ ops (Then P ⟨n', r, ds', h0', w0'⟩ y Q) [] ρ hs := JL.nil (At.next h)
theorem JL.ns {x : Code} (h : J P ⟨n, r, ds, h0, w0⟩ x (Then P ⟨n, r, ds, h0, w0⟩ y Q) ρ hs) : JL P ⟨n, r, ds, h0, w0⟩ ops (Then P ⟨n', r, ds', h0', w0'⟩ (.seq x y) Q) [] ρ hs := JL.n2 (J.seq h)
theorem JL.n4 (h : JL P ⟨n, r, ds, h0, w0⟩ os.toArray (Then P ⟨n, r, ds, h0, w0⟩ y Q) os ρ hs) : JL P ⟨n, r, ds, h0, w0⟩ ops (Then P ⟨n', r, ds', h0', w0'⟩ (.seq (.region id os.toArray false) y) Q) [] ρ hs := JL.n2 (J.sr h)
theorem JL.n5 {z : Code} (h : JL P ⟨n, r, ds, h0, w0⟩ os.toArray (Then P ⟨n, r, ds, h0, w0⟩ y (Then P ⟨n, r, ds, h0, w0⟩ z Q)) os ρ hs) : JL P ⟨n, r, ds, h0, w0⟩ ops (Then P ⟨n', r, ds', h0', w0'⟩ (.seq (.seq (.region id os.toArray false) y) z) Q) [] ρ hs := JL.n2 (J.seq (J.sr h))
theorem JL.nr (h : At ⟨n, r, ds, h0, w0⟩ Q .ret ρ hs) : JL P ⟨n, r, ds, h0, w0⟩ ops (Then P ⟨n', r, ds', h0', w0'⟩ .ret Q) [] ρ hs := JL.n2 (J.ret h)
theorem JL.nb {i : Nat} {c : Code} (h : J P ⟨n, r, ds, h0, w0⟩ c (Exit.inBlock i Q) ρ hs) : JL P ⟨n, r, ds, h0, w0⟩ ops (Then P ⟨n', r, ds', h0', w0'⟩ (.block i c) Q) [] ρ hs := JL.n2 (J.block h)
theorem J.k4 (h : JL P ⟨n, r, ds, h0, w0⟩ os.toArray (Then P ⟨n, r, ds, h0, w0⟩ y Q) os ρ hs) : J P ⟨n, r, ds, h0, w0⟩ .skip (Then P ⟨n', r, ds', h0', w0'⟩ (.seq (.region id os.toArray false) y) Q) ρ hs := J.skip (At.next (J.sr h))
theorem DNew.n2 {l : List Oper} (h : J P ⟨n, r, ds, h0, w0⟩ y Q ρ hs) : DNew P ⟨n, r, ds, h0, w0⟩ l hs [] ρ fun ρ' => At ⟨n, r, ds, h0, w0⟩ (Then P ⟨n', r, ds', h0', w0'⟩ y Q) .normal ρ' hs := DNew.nil (At.next h)
end
section
variable {P : Program} {C : Cx} {Q : Exit → Act → World → Prop} {ρ : Env} {hs : List Assn} {ops : Array Oper} {rest : List Oper} {x : Operand} {d : Nat} {ty : TypeId} {pos : String} {af : Array Edge} {v : Value} {l : List (Nat × Value)}
theorem JL.mv (h : Ev C.n (ext l ρ) x v) (k : JL P C ops Q rest (ext ((d, v) :: l) ρ) hs) : JL P C ops Q (⟨some d, .move x, ty, pos, af, none⟩ :: rest) (ext l ρ) hs := JL.rd (Rd.move h) k
theorem JL.as (h : Ev C.n (ext l ρ) x v) (k : JL P C ops Q rest (ext ((d, v) :: l) ρ) hs) : JL P C ops Q (⟨some d, .assign x, ty, pos, af, none⟩ :: rest) (ext l ρ) hs := JL.rd (Rd.assign h) k
theorem JL.ex {i : Nat} {vs : List Value} (h : Ev C.n (ext l ρ) x (.tuple vs.toArray)) (hv : Nth i vs v) (k : JL P C ops Q rest (ext ((d, v) :: l) ρ) hs) : JL P C ops Q (⟨some d, .extract x i, ty, pos, af, none⟩ :: rest) (ext l ρ) hs := JL.rd (Rd.extract h hv) k
theorem JL.e {i : Nat} {vs : List Value} (h : Ev C.n (ext l ρ) x (.tuple vs.toArray)) (k : JL P C ops Q rest (ext ((d, v) :: l) ρ) hs) (hv : Nth i vs v := by repeat constructor) : JL P C ops Q (⟨some d, .extract x i, ty, pos, af, none⟩ :: rest) (ext l ρ) hs := JL.ex h hv k
end
theorem At.r {P : Program} {fn : Func} {X : Type} {R : X → Prop} {rt : X → Value} {post : X → List Assn} {ρ : Env} {hs : List Assn} {n h0 w0 v} (x : X) (hR : R x) (hres : ResV P ⟨n, none, [], h0, w0⟩ fn ρ hs v) (hv : v = rt x) (hpost : ∀ h, Stars hs h → Stars (post x) h := by exact fun _ => Stars.sel (by repeat constructor)) :
    At ⟨n, none, [], h0, w0⟩ (RetQ P fn h0 w0 R rt post) .ret ρ hs := At.ret x hR hres hv hpost
end Go.Proofs.YtbhladkbnleeoaaGreat

namespace Go.Proofs.YtbhladkbnleeoaaGreat

/-! ### maps with keys of type int -/
def kv (p : Int × Value) : Value × Value := (.int .i64 p.1, p.2)
def mget : List (Int × Value) → Int → Option Value
  | [], _ => none
  | p :: l, k => if p.1 = k then some p.2 else mget l k
def KeysOk (mp : List (Int × Value)) : Prop := (mp.map (·.1)).Nodup

/-- The place of a key. -/
def mix : List (Int × Value) → Int → Option (Nat × Value)
  | [], _ => none
  | p :: l, k => if p.1 = k then some (0, p.2) else (mix l k).map fun q => (q.1 + 1, q.2)
theorem mix_get (mp : List (Int × Value)) (k : Int) : (mix mp k).map (·.2) = mget mp k := by
  induction mp with
  | nil => rfl
  | cons p mp ih =>
    unfold mix mget
    split
    · rfl
    · rw [← ih]; cases mix mp k <;> rfl

/-- The entries of a map block. -/
structure Ents (es : Array MapEntry) (clock : Nat) (mp : List (Int × Value)) : Prop where
  ents : es.toList.map (fun e => (e.key, e.val)) = mp.map kv
  keys : KeysOk mp
  borns : (es.toList.map (·.born)).Nodup
  young : ∀ e ∈ es.toList, e.born < clock

/-- The block m is a map with these entries, in this order. -/
@[irreducible] def imap (m : Nat) (mp : List (Int × Value)) : Assn := fun h => ∃ es clock, h m = some (true, .map es clock) ∧ Ents es clock mp

theorem findNow_ents {q : IntKind} : ∀ (l : List MapEntry) (mp : List (Int × Value)) (k : Int) (i : Nat), l.map (fun e => (e.key, e.val)) = mp.map kv →
    Instr.findNow (.int q) (.int .i64 k) l i = some ((mix mp k).map fun r => (i + r.1, r.2)) := by
  intro l
  induction l with
  | nil =>
    intro mp k i h
    cases mp with
    | nil => rfl
    | cons p mp => simp at h
  | cons e l ih =>
    intro mp k i h
    cases mp with
    | nil => simp at h
    | cons p mp =>
      simp only [List.map_cons, List.cons.injEq, kv, Prod.mk.injEq] at h
      obtain ⟨⟨h1, h2⟩, h3⟩ := h
      unfold Instr.findNow
      rw [h1]
      have hs : Instr.sameNow (.int q) (.int .i64 k) (.int .i64 p.1) = some (k == p.1) := by simp [Instr.sameNow]
      rw [hs]
      unfold mix
      by_cases hp : p.1 = k
      · rw [if_pos hp, ← hp]; simp [h2]
      · have hb : (k == p.1) = false := by simpa using fun e : k = p.1 => hp e.symm
        rw [hb, if_neg hp]
        simp only []
        rw [ih mp k (i + 1) h3]
        cases mix mp k with
        | none => rfl
        | some r => simp; omega

section
variable {P : Program} {w : World} {es : Array MapEntry} {clock : Nat} {mp : List (Int × Value)} {kt : TypeId} {q : IntKind}

theorem run_checkKey (hk : ∀ w, (underlying kt).run P w = .ok (.int q) w) (b : Bool) (k : Int) : (Instr.checkKey b 10000 kt (.int .i64 k)).run P w = .ok () w := by
  show (Instr.checkKey b (9999 + 1) kt (.int .i64 k)).run P w = _
  unfold Instr.checkKey
  rw [Sem.run_bind, hk w]; rfl

theorem run_findKey (hk : ∀ w, (underlying kt).run P w = .ok (.int q) w) (h : Ents es clock mp) (k : Int) : (Instr.findKey kt (.int .i64 k) es.toList).run P w = .ok (mix mp k) w := by
  unfold Instr.findKey
  rw [Sem.run_bind, hk w]
  simp only [Result.andThen]
  rw [findNow_ents _ _ k 0 h.ents]
  cases mix mp k with
  | none => rfl
  | some r => simp

theorem run_getMap {m : Nat} (hm : w.heap[m]? = some (.map es clock)) : (getObj m).run P w = .ok (.map es clock) w := by
  simp [getObj, Sem.run, hm]
theorem run_lookup {t e : TypeId} {m : Nat} {z : Value} (ht : ∀ w, (underlying t).run P w = .ok (.map kt e) w) (hk : ∀ w, (underlying kt).run P w = .ok (.int q) w) (hz : ∀ w, (zeroValue e).run P w = .ok z w)
    (hm : w.heap[m]? = some (.map es clock)) (h : Ents es clock mp) (k : Int) (ok : Bool) :
    (Instr.lookup t (.map (some m)) (.int .i64 k) ok).run P w = .ok (if ok then .tuple #[(mget mp k).getD z, .bool (mget mp k).isSome] else (mget mp k).getD z) w := by
  simp only [Instr.lookup, Sem.run_bind, Sem.run_pure, ht w, run_getMap hm, Result.andThen, run_checkKey hk, run_findKey hk h]
  rw [← mix_get]
  cases mix mp k with
  | none => simp [hz w, Result.andThen]
  | some r => simp

end

/-! ### the rules -/
theorem imap_open {m : Nat} {mp : List (Int × Value)} {hs : List Assn} {h0 : Frag} {w0 w : World} {hs1 : List Assn} (t : Take (imap m mp) hs hs1) (i : Inv h0 w0 hs w) :
    ∃ es clock, Ents es clock mp ∧ Inv h0 w0 (pts m (.map es clock) :: hs1) w := by
  obtain ⟨h, s, b, f⟩ := Inv.perm t.perm i
  obtain ⟨h1, h2, a, s2, c, rfl⟩ := s
  unfold imap at a
  obtain ⟨es, clock, e1, e2⟩ := a
  exact ⟨es, clock, e2, ⟨_, ⟨h1, h2, by unfold pts; exact e1, s2, c, rfl⟩, b, f⟩⟩
theorem imap_shut {m : Nat} {mp : List (Int × Value)} {es : Array MapEntry} {clock : Nat} (e : Ents es clock mp) {l : List Assn} {h : Frag} (s : Stars (pts m (.map es clock) :: l) h) : Stars (imap m mp :: l) h := by
  obtain ⟨h1, h2, a, s2, c, rfl⟩ := s
  unfold pts at a
  exact ⟨h1, h2, by unfold imap; exact ⟨es, clock, a, e⟩, s2, c, rfl⟩
theorem imap_new (m : Nat) {l : List Assn} {h : Frag} (s : Stars (pts m (.map #[] 0) :: l) h) : Stars (imap m [] :: l) h :=
  imap_shut (es := #[]) (clock := 0) (mp := []) ⟨rfl, show ([] : List Int).Nodup from List.nodup_nil, List.nodup_nil, by simp⟩ s

section
variable {P : Program} {C : Cx} {hs hs1 : List Assn} {ρ : Env} {d : Option Tmp} {ty : TypeId} {pos : String} {af : Array Edge} {g : Option (Nat × Bool)} {K : Value → List Assn → Prop}
  {x y z : Operand} {v u : Value} {t kt e : TypeId} {q : IntKind} {m : Nat} {mp : List (Int × Value)} {k : Int}

theorem Rd.lookup (ht : ∀ w, (underlying t).run P w = .ok (.map kt e) w) (hk : ∀ w, (underlying kt).run P w = .ok (.int q) w) (hz : ∀ w, (zeroValue e).run P w = .ok u w)
    (h1 : Ev C.n ρ x (.map (some m))) (h2 : Ev C.n ρ y (.int .i64 k)) (tk : Take (imap m mp) hs hs1) (hv : (mget mp k).getD u = v) : Rd P C hs ρ ⟨d, .lookup t x y false, ty, pos, af, g⟩ v :=
  Rd.ex (fun c h => by cases h) (Instr.lookup t (.map (some m)) (.int .i64 k) false) (fun ds => by simp only [execOp, h1 ds, h2 ds]) fun w hi => by
    obtain ⟨es, clock, he, hi'⟩ := imap_open tk hi
    rw [run_lookup ht hk hz (Blk.inv .own hi') he k false, ← hv]; rfl
end

end Go.Proofs.YtbhladkbnleeoaaGreat

namespace Go.Proofs.YtbhladkbnleeoaaGreat

/-- Bytes as cells, and a string out of bytes. -/
def bv (l : List UInt8) : List Value := l.map fun b => .int .u8 (b.toNat : Int)
def str (l : List UInt8) : Value := .string ⟨l.toArray⟩
@[simp] theorem bv_length (l : List UInt8) : (bv l).length = l.length := by simp [bv]
theorem bv_one (l : List UInt8) : ∀ v ∈ bv l, v.oneCell' = true := by
  intro v hv
  obtain ⟨b, _, rfl⟩ := List.mem_map.1 hv
  rfl
theorem bv_append (l m : List UInt8) : bv (l ++ m) = bv l ++ bv m := by simp [bv]
theorem bv_get (l : List UInt8) (i : Nat) : (bv l)[i]? = (l[i]?).map fun b => .int .u8 (b.toNat : Int) := by simp [bv]
theorem bv_take (l : List UInt8) (n : Nat) : bv (l.take n) = (bv l).take n := by simp [bv, List.map_take]
theorem bv_drop (l : List UInt8) (n : Nat) : bv (l.drop n) = (bv l).drop n := by simp [bv, List.map_drop]
/-- All cells of a list of elements. -/
def Flat (s : Nat) (xs : List (List Value)) : Prop := ∀ x ∈ xs, x.length = s
theorem Flat.length {s : Nat} {xs : List (List Value)} (h : Flat s xs) : xs.flatten.length = xs.length * s := by
  induction xs with
  | nil => simp
  | cons x xs ih =>
    rw [List.flatten_cons, List.length_append, h x (List.mem_cons_self ..), ih fun y hy => h y (List.mem_cons_of_mem _ hy), List.length_cons, Nat.add_mul]
    omega
theorem Flat.get {s : Nat} {xs : List (List Value)} (h : Flat s xs) : ∀ {i : Nat} {x : List Value}, xs[i]? = some x → (xs.flatten.drop (i * s)).take s = x := by
  induction xs with
  | nil => intro i x hx; simp at hx
  | cons y xs ih =>
    intro i x hx
    have hy : y.length = s := h y (List.mem_cons_self ..)
    cases i with
    | zero =>
      simp at hx; subst hx
      simp [← hy]
    | succ i =>
      have := ih (fun z hz => h z (List.mem_cons_of_mem _ hz)) (i := i) (x := x) (by simpa using hx)
      rw [List.flatten_cons, Nat.add_mul, Nat.one_mul, Nat.add_comm, ← List.drop_drop, ← hy, List.drop_left, hy]
      exact this

/-- A slice that is owned: its array's address, its capacity, the element's type and size, and the elements. Its value is `.slice a xs.length cap`. -/
@[irreducible] def row (a : Option Addr) (cap : Nat) (e : TypeId) (s : Nat) (xs : List (List Value)) : Assn := fun h =>
  Flat s xs ∧ ((a = none ∧ xs = [] ∧ cap = 0) ∨ ∃ (b : Nat) (cs : List Value) (lo hi : Nat), a = some ⟨b, 0, none⟩ ∧ h b = some (true, .cells cs.toArray e (lo, hi)) ∧ (hi ≤ lo ∨ cap * s ≤ lo) ∧ cs.length = cap * s ∧ xs.length ≤ cap ∧ cap ≤ maxLen ∧ cs.take (xs.length * s) = xs.flatten)

theorem row_nil (e : TypeId) (s : Nat) {l : List Assn} {h : Frag} (t : Stars l h) : Stars (row none 0 e s [] :: l) h :=
  ⟨fun _ => none, h, by unfold row; exact ⟨(by intro x hx; cases hx), .inl ⟨rfl, rfl, rfl⟩⟩, t, fun _ => .inl rfl, by funext b; rfl⟩

theorem row_mk {b cap e s lo hi} {cs : List Value} {xs : List (List Value)} (hf : Flat s xs) (hfr : hi ≤ lo ∨ cap * s ≤ lo) (hc : cs.length = cap * s) (hl : xs.length ≤ cap) (hm : cap ≤ maxLen) (ht : cs.take (xs.length * s) = xs.flatten)
    {l : List Assn} {h : Frag} (t : Stars (pts b (.cells cs.toArray e (lo, hi)) :: l) h) : Stars (row (some ⟨b, 0, none⟩) cap e s xs :: l) h := by
  obtain ⟨h1, h2, p, q, c, rfl⟩ := t
  unfold pts at p
  exact ⟨h1, h2, by unfold row; exact ⟨hf, .inr ⟨b, cs, lo, hi, rfl, p, hfr, hc, hl, hm, ht⟩⟩, q, c, rfl⟩

theorem row_open {a cap e s xs} {hs hs1 : List Assn} {h0 : Frag} {w0 w : World} (t : Take (row a cap e s xs) hs hs1) (i : Inv h0 w0 hs w) :
    Flat s xs ∧ ((a = none ∧ xs = [] ∧ cap = 0 ∧ Inv h0 w0 hs1 w) ∨ ∃ (b : Nat) (cs : List Value) (lo hi : Nat), a = some ⟨b, 0, none⟩ ∧ Inv h0 w0 (pts b (.cells cs.toArray e (lo, hi)) :: hs1) w ∧ (hi ≤ lo ∨ cap * s ≤ lo) ∧ cs.length = cap * s ∧ xs.length ≤ cap ∧ cap ≤ maxLen ∧ cs.take (xs.length * s) = xs.flatten) := by
  obtain ⟨h, st, b, f⟩ := Inv.perm t.perm i
  obtain ⟨h1, h2, p, q, c, rfl⟩ := st
  unfold row at p
  obtain ⟨hf, ⟨rfl, rfl, rfl⟩ | ⟨b', cs, lo, hi, rfl, hp, r⟩⟩ := p
  · refine ⟨hf, .inl ⟨rfl, rfl, rfl, ⟨_, ?_, b, f⟩⟩⟩
    rw [jn_comm c]; exact Stars.weak q c.symm
  · exact ⟨hf, .inr ⟨b', cs, lo, hi, rfl, ⟨_, ⟨h1, h2, by unfold pts; exact hp, q, c, rfl⟩, b, f⟩, r⟩⟩

/-- An element of a row. -/
theorem row_elem {cs : List Value} {xs : List (List Value)} {s : Nat} (hf : Flat s xs) (ht : cs.take (xs.length * s) = xs.flatten) {i : Nat} {x : List Value} (hx : xs[i]? = some x) : (cs.drop (i * s)).take s = x := by
  have hlt := (List.getElem?_eq_some_iff.1 hx).1
  have h1 := hf.get hx
  rw [← ht, List.drop_take, List.take_take] at h1
  have : min s (xs.length * s - i * s) = s := by
    rw [← Nat.sub_mul]
    have : 1 ≤ xs.length - i := by omega
    have := Nat.mul_le_mul_right s this
    omega
  rwa [this] at h1

/-! ### append -/
/-- What is known of an element type: `info`. -/
structure Elt (P : Program) (t e : TypeId) (s bytes : Nat) (z : List Value) : Prop where
  sl : P.underlying t = some (.slice e)
  info : ∃ i v, P.info? e = some i ∧ i.zero = some v ∧ i.size = s ∧ i.bytes = bytes ∧ v.cells = z.toArray
  len : z.length = s
  pos : 0 < s

theorem Elt.mk' {P : Program} {t e : TypeId} {s bytes : Nat} {z : List Value} {i : TypeInfo} {v : Value} (h1 : P.underlying t = some (.slice e)) (h2 : P.info? e = some i) (h3 : i.zero = some v) (h4 : i.size = s) (h5 : i.bytes = bytes) (h6 : v.cells = z.toArray) (h7 : z.length = s) (h8 : 0 < s) : Elt P t e s bytes z :=
  ⟨h1, ⟨i, v, h2, h3, h4, h5, h6⟩, h7, h8⟩

theorem run_storeCells0 {P : Program} {vs : List Value} {w : World} {b off : Nat} {cs : List Value} {e : TypeId} {lo hi : Nat} (h : w.heap[b]? = some (.cells cs.toArray e (lo, hi))) (hf : hi ≤ off ∨ hi ≤ lo ∨ off + vs.length ≤ lo)
    (hl : off + vs.length ≤ cs.length) (hv : ∀ v ∈ vs, v.oneCell' = true) : (storeCells ⟨b, off, none⟩ vs).run P w = .ok () (setBlk w b (.cells (splice cs off vs).toArray e (lo, hi))) := by
  have := run_storeRow (P := P) vs (i := 0) h (by simpa using hf) (by simpa using hl) hv
  simpa using this

theorem loads_of {w : World} {b off : Nat} {cs vs : List Value} {e : TypeId} {fr : Nat × Nat} (hb : w.heap[b]? = some (.cells cs.toArray e fr)) (hv : (cs.drop off).take vs.length = vs) :
    ∀ j v, vs[j]? = some v → w.cell? ((⟨b, off, none⟩ : Addr).add j) = some v := by
  intro j v hj
  rw [add_off, cell_of hb]
  have hj' : j < vs.length := (List.getElem?_eq_some_iff.1 hj).1
  rw [← hv, List.getElem?_take_of_lt hj', List.getElem?_drop] at hj
  exact hj

theorem run_app_room {P : Program} {t e ty : TypeId} {s bytes : Nat} {z : List Value} (E : Elt P t e s bytes z) {w : World} {g n cap m c : Nat} {cs : List Value} {e' : TypeId} {lo hi : Nat} {news : List Value} {a : Addr}
    (hg : w.heap[g]? = some (.cells cs.toArray e' (lo, hi))) (hfr : hi ≤ lo ∨ (n + m) * s ≤ lo) (hl : news.length = m * s) (hnews : ∀ j u, news[j]? = some u → w.cell? (a.add j) = some u) (h1 : ∀ u ∈ news, u.oneCell' = true)
    (hroom : n + m ≤ cap) (hfit : n * s + news.length ≤ cs.length) :
    (Builtin.append_ #[t, t] ty #[.slice (some ⟨g, 0, none⟩) n cap, .slice (some a) m c]).run P w = .ok (.slice (some ⟨g, 0, none⟩) (n + m) cap) (setBlk w g (.cells (splice cs (n * s) news).toArray e' (lo, hi))) := by
  obtain ⟨i, v, hi1, hz, hs, _, _⟩ := E.info
  subst hs
  have hf := run_firstCells_some (P := P) w i.size m a m c news hl hnews
  have hst := run_storeCells0 (P := P) (off := n * i.size) hg (by rw [Nat.add_mul] at hfr; omega) hfit h1
  simp [Builtin.append_, run_underlying E.sl, sizeOf, typeInfo, hi1, Builtin.lenOf, hroom, hf, Addr.add_lit, hst]

theorem splice_take {cs news : List Value} {k : Nat} (h : k + news.length ≤ cs.length) : (splice cs k news).take (k + news.length) = cs.take k ++ news := by
  unfold splice
  rw [List.take_append_of_le_length (by simp; omega)]
  exact List.take_of_length_le (by simp; omega)
theorem splice_length {cs news : List Value} {k : Nat} (h : k + news.length ≤ cs.length) : (splice cs k news).length = cs.length := by
  unfold splice; simp; omega

/-- append to a slice that is owned. -/
theorem run_app {P : Program} {t e ty : TypeId} {s bytes : Nat} {z : List Value} (E : Elt P t e s bytes z) {C : Cx} {hs hs1 : List Assn} {w : World} {a : Option Addr} {cap m c : Nat} {xs ys : List (List Value)} {ad : Addr}
    (tk : Take (row a cap e s xs) hs hs1) (hi : C.inv hs w) (hfy : Flat s ys) (hm : ys.length = m) (hnews : ∀ w, C.inv hs w → ∀ j u, ys.flatten[j]? = some u → w.cell? (ad.add j) = some u) (h1 : ∀ u ∈ ys.flatten, u.oneCell' = true)
    (hbig : (xs.length + m) * bytes ≤ 140737488355328) (hbig' : xs.length + m ≤ maxLen) :
    ∃ a' cap' w', (Builtin.append_ #[t, t] ty #[.slice a xs.length cap, .slice (some ad) m c]).run P w = .ok (.slice a' (xs ++ ys).length cap') w' ∧ C.inv (row a' cap' e s (xs ++ ys) :: hs1) w' := by
  have hn := hnews w hi
  obtain ⟨i, v, hi1, hz, hsz, hby, hzc⟩ := E.info
  have hlen : (xs ++ ys).length = xs.length + m := by simp [hm]
  have hyl : ys.flatten.length = m * s := by rw [hfy.length, hm]
  have hzs : v.cells.size = s := by rw [hzc]; simpa using E.len
  have h63 : ((xs.length + m : Nat) : Int) ≤ 9223372036854775807 := by simp only [maxLen] at hbig'; omega
  have hcell : ∀ k, (Builtin.zeroCells v.cells k).toList.length = k * s := fun k => by rw [Array.length_toList, size_zeroCells, hzs]
  rcases row_open tk hi with ⟨hf, ⟨rfl, rfl, rfl, hi'⟩ | ⟨b, cs, lo, hi2, rfl, hi', r1, r2, r3, r4, r5⟩⟩
  · by_cases hm0 : m = 0
    · subst hm0
      have hy0 : ys = [] := List.eq_nil_of_length_eq_zero hm
      subst hy0
      refine ⟨none, 0, w, ?_, ?_⟩
      · simp [Builtin.append_, run_underlying E.sl, sizeOf, typeInfo, hi1, Builtin.lenOf, Builtin.firstCells, loadCells, loadCellsFrom]
      · exact hi'.mono fun h st => row_nil e s st
    have hpos : 0 < m := by omega
    have hr := run_append_nil (P := P) w t ty e i v E.sl hi1 hz ad m c ys.flatten (by rw [hyl, hsz]) hn hpos (by simpa using h63) (by rw [hby]; simp at hbig; omega)
    refine ⟨_, _, _, by rw [hlen]; simpa using hr, ?_⟩
    have hal := (Inv.drew hi').alloc (.cells (ys.flatten.toArray ++ Builtin.zeroCells v.cells (grownCap w m 0 e - m)) e)
    have hge := grownCap_ge w m 0 e
    refine hal.mono fun h st => ?_
    have hcs : (ys.flatten.toArray ++ Builtin.zeroCells v.cells (grownCap w m 0 e - m)) = (ys.flatten ++ (Builtin.zeroCells v.cells (grownCap w m 0 e - m)).toList).toArray := by simp
    rw [hcs] at st
    refine row_mk (by simpa using hfy) (.inl (Nat.le_refl _)) ?_ (by rw [hlen]; simpa using hge) (grownCap_le_maxLen w m 0 e (by simpa using hbig')) ?_ st
    · rw [List.length_append, hyl, hcell, ← Nat.add_mul]; congr 1; omega
    · simp only [List.nil_append, hm]
      rw [← hyl]; exact List.take_left
  · by_cases hroom : xs.length + m ≤ cap
    · have hg := Blk.inv .own hi'
      have hms : (xs.length + m) * s ≤ cap * s := Nat.mul_le_mul_right _ hroom
      have hfit : xs.length * s + ys.flatten.length ≤ cs.length := by rw [hyl, r2, ← Nat.add_mul]; exact hms
      have hr := run_app_room (P := P) (ty := ty) E (c := c) hg (by omega) hyl hn h1 hroom hfit
      refine ⟨_, _, _, by rw [hlen]; exact hr, ?_⟩
      refine (hi'.upd .here).mono fun h st => ?_
      refine row_mk ?_ r1 (by rw [splice_length hfit, r2]) (by rw [hlen]; exact hroom) r4 ?_ st
      · intro x hx
        rcases List.mem_append.1 hx with hx | hx
        · exact hf x hx
        · exact hfy x hx
      · rw [hlen, Nat.add_mul, ← hyl, splice_take hfit, r5]; simp
    · have hg := Blk.inv .own hi'
      have hxl : xs.flatten.length = xs.length * s := hf.length
      have holds : ∀ j u, xs.flatten[j]? = some u → w.cell? ((⟨b, 0, none⟩ : Addr).add j) = some u :=
        loads_of hg (by rw [List.drop_zero, hxl]; exact r5)
      have hr := run_append_grow (P := P) w t ty e i v E.sl hi1 hz ⟨b, 0, none⟩ xs.length cap xs.flatten (by rw [hxl, hsz]) holds ad m c ys.flatten (by rw [hyl, hsz]) hn (by omega) h63 (by rw [hby]; exact growslice_fits (by omega) hbig)
      refine ⟨_, _, _, by rw [hlen]; exact hr, ?_⟩
      have hi3 : Inv C.h0 C.w0 hs1 w.drew := (Inv.drew hi').mono fun _ st => st.tail
      have hal := hi3.alloc (.cells (xs.flatten.toArray ++ ys.flatten.toArray ++ Builtin.zeroCells v.cells (grownCap w (xs.length + m) cap e - (xs.length + m))) e)
      have hge := grownCap_ge w (xs.length + m) cap e
      refine hal.mono fun h st => ?_
      have hcs : (xs.flatten.toArray ++ ys.flatten.toArray ++ Builtin.zeroCells v.cells (grownCap w (xs.length + m) cap e - (xs.length + m))) = (xs.flatten ++ ys.flatten ++ (Builtin.zeroCells v.cells (grownCap w (xs.length + m) cap e - (xs.length + m))).toList).toArray := by simp
      rw [hcs] at st
      refine row_mk ?_ (.inl (Nat.le_refl _)) ?_ (by rw [hlen]; exact hge) (grownCap_le_maxLen w (xs.length + m) cap e hbig') ?_ st
      · intro x hx
        rcases List.mem_append.1 hx with hx | hx
        · exact hf x hx
        · exact hfy x hx
      · rw [List.length_append, List.length_append, hxl, hyl, hcell, ← Nat.add_mul, ← Nat.add_mul]; congr 1; omega
      · rw [hlen, Nat.add_mul, ← hxl, ← hyl, ← List.length_append, List.take_left]; simp

section
variable {P : Program} {C : Cx} {hs hs1 : List Assn} {ρ : Env} {d : Option Tmp} {ty : TypeId} {pos : String} {af : Array Edge} {g : Option (Nat × Bool)} {K : Value → List Assn → Prop}
  {x y z : Operand} {v u : Value} {t e : TypeId} {s bytes : Nat} {zs : List Value}

end

theorem slit_run {P : Program} {t e : TypeId} {s bytes : Nat} {zs : List Value} (E : Elt P t e s bytes zs) (n : Nat) (hn : n * s ≤ 2 ^ 24) (hpos : 0 < n) (vs : List (Nat × Value)) (c : Array Value)
    (h : Instr.fill (fun i => some (i * s, s)) ((Array.range (n * s)).map (zs.toArray[· % zs.length]!)) vs = some c) (w : World) :
    (Instr.buildSlice t n vs.toArray).run P w = .ok (.slice (some ⟨w.heap.size, 0, none⟩) n n) (w.alloc (.cells c e)) := by
  obtain ⟨i, v, hi1, hz, hsz, hby, hzc⟩ := E.info
  subst hsz
  have hne : n * i.size ≠ 0 := Nat.mul_ne_zero (by omega) (by have := E.pos; omega)
  simp only [Instr.buildSlice, Sem.run_bind, run_underlying E.sl, sizeOf, typeInfo, zeroValue, program, Sem.run, hi1, Result.andThen, Sem.run_pure]
  rw [if_neg (by omega)]
  simp only [Sem.run_bind, Sem.run_pure, Result.andThen, hi1, hz, if_neg hne, Sem.run, hzc, List.size_toArray]
  rw [h]
  rfl

end Go.Proofs.YtbhladkbnleeoaaGreat

namespace Go.Proofs.YtbhladkbnleeoaaGreat

/-! ### arrays compared -/
section
variable {P : Program}

end

section
variable {P : Program} {C : Cx} {hs hs1 : List Assn} {ρ : Env} {d : Option Tmp} {ty : TypeId} {pos : String} {af : Array Edge} {g : Option (Nat × Bool)} {K : Value → List Assn → Prop}
  {x y z : Operand} {v u : Value} {t t' e : TypeId} {s bytes n : Nat} {q : IntKind} {zs : List Value}

theorem run_eqGuardA {op : BinOp} {a b : Array Value} (hg : P.eqGuardType P.depth t = false) (w : World) : (eqGuard op t x y (.agg a) (.agg b)).run P w = .ok () w := by
  unfold eqGuard
  cases op <;> first | rfl | simp [Sem.run_bind, program, Sem.run, Result.andThen, hg]

/-! ### slices out of nothing, out of arrays, out of slices -/
theorem range_rep {z : Value} (n : Nat) : (Array.range n).map (fun i => (#[z] : Array Value)[i % #[z].size]!) = (List.replicate n z).toArray := by
  apply Array.ext
  · simp
  · intro i h1 h2
    simp at h1
    simp [Nat.mod_one]

theorem Ef.mkslice {zv : Value} {l c : Nat} {i : TypeInfo} (hu : ∀ w, (underlying t).run P w = .ok (.slice e) w) (hi : ∀ w, (typeInfo e).run P w = .ok i w) (hz : ∀ w, (sizeOf e).run P w = .ok 1 w) (hzv : ∀ w, (zeroValue e).run P w = .ok zv w) (hc : zv.cells = #[zv])
    (h1 : Ev C.n ρ x (.int .i64 l)) (h2 : Ev C.n ρ y (.int .i64 c)) (hlc : l ≤ c) (hb : i.bytes * c ≤ 140737488355328) (hc0 : 0 < c) (hc1 : c ≤ maxLen)
    (k : ∀ b, K (.slice (some ⟨b, 0, none⟩) l c) (pts b (.cells (List.replicate c zv).toArray e) :: hs)) : Ef P C hs ρ ⟨d, .makeSlice t x y, ty, pos, af, g⟩ K :=
  Ef.ex (fun c h => by cases h) (Instr.makeSlice t (.int .i64 l) (.int .i64 c)) (fun ds => by simp only [execOp, h1 ds, h2 ds]) fun w hi' => by
    refine ⟨_, w.alloc (.cells (List.replicate c zv).toArray e), _, ?_, hi'.alloc _, k _⟩
    have hw1 : IntKind.i64.wrap (l : Int) = l := w64 (by omega) (by simp only [maxLen] at hc1; omega)
    have hw2 : IntKind.i64.wrap (c : Int) = c := w64 (by omega) (by simp only [maxLen] at hc1; omega)
    have ht0 : ((i.bytes * c : Nat) : Int) ≤ 140737488355328 := by omega
    have ht1 : (i.bytes : Int) * (c : Int) ≤ 140737488355328 := by simpa using ht0
    have htl : ((decide ((c : Int) < 0)) || decide ((i.bytes : Int) * (c : Int) > 2 ^ 48)) = false := by
      simp only [Bool.or_eq_false_iff, decide_eq_false_iff_not]; omega
    have hcnd : (((decide ((c : Int) < 0)) || decide ((i.bytes : Int) * (c : Int) > 2 ^ 48)) || decide ((l : Int) < 0) || decide ((l : Int) > (c : Int))) = false := by
      rw [htl]
      simp only [Bool.false_or, Bool.or_eq_false_iff, decide_eq_false_iff_not]; omega
    have hroom : ∀ n w, (askRoom n).run P w = .ok () w := fun n w => by unfold askRoom; split <;> rfl
    simp only [Instr.makeSlice, Sem.run_bind, hu w, Result.andThen, asInt, asIntOf, Sem.run_pure, hi w, hw1, hw2]
    simp only [hcnd, Bool.false_eq_true, if_false, Sem.run_bind, hroom, Result.andThen, hz w, Int.toNat_natCast, Nat.mul_one]
    rw [if_neg (by omega)]
    simp only [Sem.run_bind, hzv w, Result.andThen, Sem.run_pure, hc, range_rep]
    rfl

theorem Rd.sliceAll {b off : Nat} (hu : ∀ w, (underlying t).run P w = .ok (.array n e) w) (hz : ∀ w, (sizeOf e).run P w = .ok s w) (h : Ev C.n ρ x (.pointer (some ⟨b, off, none⟩))) (hn : 0 < n) :
    Rd P C hs ρ ⟨d, .slice t x none none none, ty, pos, af, g⟩ (.slice (some ⟨b, off, none⟩) n n) :=
  Rd.ex (fun c h => by cases h) (Instr.sliceAt t (.pointer (some ⟨b, off, none⟩)) none none none) (fun ds => by simp only [execOp, h ds, Option.map_none]) fun w _ => by
    simp only [Instr.sliceAt, Sem.run_bind, hu w, Result.andThen, Instr.sureAddr, Instr.sliceBounds, Sem.run_pure, hz w]
    rw [if_neg (by omega), Nat.zero_mul]; rfl
theorem Rd.arrptr {a : Option Addr} {len cap : Nat} (hu : ∀ w, (underlying t).run P w = .ok (.array n e) w) (h : Ev C.n ρ x (.slice a len cap)) (hl : n ≤ len) : Rd P C hs ρ ⟨d, .sliceToArrayPointer t x, ty, pos, af, g⟩ (.pointer a) :=
  Rd.ex (fun c h => by cases h) (Instr.arrayAt t (.slice a len cap)) (fun ds => by simp only [execOp, h ds]) fun w _ => by
    simp only [Instr.arrayAt, Sem.run_bind, hu w, Result.andThen, Nat.not_lt.2 hl, if_false]; rfl

/-! ### strings -/
theorem bytes_eq {a b : List UInt8} : ((⟨a.toArray⟩ : ByteArray).toList == (⟨b.toArray⟩ : ByteArray).toList) = decide (a = b) := by
  rw [ByteArray.toList_eq, ByteArray.toList_eq]
  by_cases h : a = b
  · simp [h]
  · simp [h]
theorem Rd.str_eql {a b : List UInt8} (h1 : Ev C.n ρ x (str a)) (h2 : Ev C.n ρ y (str b)) : Rd P C hs ρ ⟨d, .binOp .eql t x y t', ty, pos, af, g⟩ (.bool (decide (a = b))) :=
  Rd.str2 h1 h2 fun w => by simp only [Op.stringOp, bytes_eq]; rfl
theorem Rd.str_neq {a b : List UInt8} (h1 : Ev C.n ρ x (str a)) (h2 : Ev C.n ρ y (str b)) : Rd P C hs ρ ⟨d, .binOp .neq t x y t', ty, pos, af, g⟩ (.bool (decide (a ≠ b))) :=
  Rd.str2 h1 h2 fun w => by simp only [Op.stringOp, bytes_eq, decide_not]; rfl
theorem Rd.str_add {a b : List UInt8} (h1 : Ev C.n ρ x (str a)) (h2 : Ev C.n ρ y (str b)) (hl : a.length + b.length ≤ 9223372036854775807) : Rd P C hs ρ ⟨d, .binOp .add t x y t', ty, pos, af, g⟩ (str (a ++ b)) :=
  Rd.str2 h1 h2 fun w => by
    have e1 : (⟨a.toArray⟩ : ByteArray).size = a.length := by simp [ByteArray.size]
    have e2 : (⟨b.toArray⟩ : ByteArray).size = b.length := by simp [ByteArray.size]
    have hm : IntKind.i64.max = 9223372036854775807 := by decide
    have e3 : (⟨a.toArray⟩ ++ ⟨b.toArray⟩ : ByteArray) = ⟨(a ++ b).toArray⟩ := by
      apply ByteArray.ext
      simp
    simp only [Op.stringOp, e1, e2, hm]
    rw [if_neg (by omega), e3]; rfl
theorem str_size (a : List UInt8) : (⟨a.toArray⟩ : ByteArray).size = a.length := by simp [ByteArray.size]
theorem Rd.lenStr {xs : TypeId} {a : List UInt8} (hu : ∀ w, (underlying xs).run P w = .ok .string w) (h : Ev C.n ρ x (str a)) :
    Rd P C hs ρ ⟨d, .call { callee := .builtin .len, args := #[x], argTypes := #[xs] }, ty, pos, af, g⟩ (.int .i64 a.length) := by
  have := Rd.lenS (P := P) (C := C) (hs := hs) (d := d) (ty := ty) (pos := pos) (af := af) (g := g) hu h
  rwa [str_size] at this
theorem str_extract (a : List UInt8) (l h : Nat) : (⟨a.toArray⟩ : ByteArray).extract l h = ⟨((a.take h).drop l).toArray⟩ := by
  apply ByteArray.ext
  rw [ByteArray.data_extract]
  simp [List.extract_eq_take_drop, List.drop_take]

end
end Go.Proofs.YtbhladkbnleeoaaGreat

namespace Go.Proofs.YtbhladkbnleeoaaGreat

/-- Some list of assertions holds. -/
@[irreducible] def exL {X : Type} (L : X → List Assn) : Assn := fun h => ∃ x, Stars (L x) h
theorem exL_mk {X : Type} {L : X → List Assn} (x : X) {l : List Assn} {h : Frag} (s : Stars (L x ++ l) h) : Stars (exL L :: l) h :=
  Stars.shut (L := L x) (fun h t => by unfold exL; exact ⟨x, t⟩) s
theorem exL_open {X : Type} {L : X → List Assn} {l : List Assn} {h : Frag} (s : Stars (exL L :: l) h) : ∃ x, Stars (L x ++ l) h := by
  obtain ⟨h1, h2, a, b, c, rfl⟩ := s
  unfold exL at a
  obtain ⟨x, t⟩ := a
  exact ⟨x, Stars.append.2 ⟨h1, h2, t, b, c, rfl⟩⟩
theorem Inv.openE {X : Type} {L : X → List Assn} {l : List Assn} {h0 : Frag} {w0 w : World} (i : Inv h0 w0 (exL L :: l) w) : ∃ x, Inv h0 w0 (L x ++ l) w := by
  obtain ⟨h, s, b, f⟩ := i
  obtain ⟨x, t⟩ := exL_open s
  exact ⟨x, h, t, b, f⟩
theorem J.openE {P : Program} {C : Cx} {Q : Exit → Act → World → Prop} {ρ : Env} {X : Type} {L : X → List Assn} {hs hs1 : List Assn} {c : Code} (t : Take (exL L) hs hs1) (k : ∀ x, J P C c Q ρ (L x ++ hs1)) : J P C c Q ρ hs := by
  intro w i
  obtain ⟨x, j⟩ := Inv.openE (Inv.perm t.perm i)
  exact k x w j
theorem At.openE {C : Cx} {Q : Exit → Act → World → Prop} {e : Exit} {ρ : Env} {X : Type} {L : X → List Assn} {hs hs1 : List Assn} (t : Take (exL L) hs hs1) (k : ∀ x, At C Q e ρ (L x ++ hs1)) : At C Q e ρ hs := by
  intro w i
  obtain ⟨x, j⟩ := Inv.openE (Inv.perm t.perm i)
  exact k x w j

/-- The record of a loop. -/
def lrec (fn : FuncId) (tmps : Array Value) (ps : List Tmp) (assign body : Code) (r0 : Nat) (st : LoopState) (pd : Option Code) : Obj :=
  .loop { state := st, pending := pd, fn := fn, tmps := tmps, params := ps.toArray, assign := assign, body := body, defers := r0 }

/-- What yield does: a round ends by 'more' or by 'no more'. -/
def Yields (P : Program) (l : Nat) (x : List Value) (pre postT postF : List Assn) : Prop := ∀ w h, Stars pre h → Sub h w →
  ∃ fn tmps assign body, (Instr.yield l x.toArray).run P w = .ok (.round l fn tmps assign body) w ∧
    RoundIn Fence.wide 0 P l fn tmps assign body w fun e w' => ∃ (b : Bool) (h' : Frag), e = .returned (.bool b) ∧ Stars (if b then postT else postF) h' ∧ Sub h' w' ∧ Fr h w h' w'

/-- An iterator's contract: it hands out xs, whatever the rounds keep. -/
def Iter (P : Program) (gf : FuncId) (cap : List Value) (own : List Assn) (xs : List (List Value)) (own' : List Assn) : Prop :=
  ∀ (l : Nat) (J Jx : Nat → List Assn), (∀ k x, xs[k]? = some x → Yields P l x (J k) (J (k + 1)) (Jx k)) →
    Fn P gf (.func (.yield l) #[] #[] :: cap) (own ++ J 0) (X := Option Nat) (fun z => ∀ k, z = some k → k < xs.length) (fun _ => .tuple #[])
      (fun z => match z with | none => own' ++ J xs.length | some k => own' ++ Jx k)

theorem Ef.yield {P : Program} {C : Cx} {hs rest : List Assn} {ρ : Env} {d : Option Tmp} {ty : TypeId} {pos : String} {af : Array Edge} {g : Option (Nat × Bool)} {K : Value → List Assn → Prop}
    {f : Operand} {l : Nat} {x : List Value} {pre postT postF : List Assn} {xs : List Operand} {ats : Array TypeId}
    (hf : Ev C.n ρ f (.func (.yield l) #[] #[])) (ha : EvL C.n ρ xs x) (hy : Yields P l x pre postT postF) (sel : Sel pre hs rest) (kt : K (.bool true) (postT ++ rest)) (kf : K (.bool false) (postF ++ rest)) :
    Ef P C hs ρ ⟨d, .call { callee := .value f, args := xs.toArray, argTypes := ats }, ty, pos, af, g⟩ K := fun w hi => by
  obtain ⟨h1, s1, b1, fr⟩ := Inv.split (hi.perm sel.perm)
  obtain ⟨fn, tmps, asn, bo, hr, hR⟩ := hy w h1 s1 b1
  refine .inr (.inr ⟨l, fn, tmps, asn, bo, w, ?_, ?_⟩)
  · rw [Oper.semAt_eq _ _ _ (fun c h => by cases h)]
    have h1 := hf C.ds
    have h2 := ha.map C.ds
    show (execOp (act C.n C.ds ρ).eval _).run P w = _
    simp only [execOp, resolve, h1, h2, Deferred.ofValue]
    simp only [Sem.run_bind, Sem.run_pure, Result.andThen, invoke]
    simpa using hr
  · have hR' : RoundIn (wideR C.r) 0 P l fn tmps asn bo w _ := hR
    refine hR'.mono ?_
    rintro e w' ⟨b, h', rfl, s', b', f'⟩
    cases b
    · exact ⟨_, _, rfl, fr h' w' postF s' b' f', kf⟩
    · exact ⟨_, _, rfl, fr h' w' postT s' b' f', kt⟩

def setp : List (Nat × Value) → Env → Env
  | [], ρ => ρ
  | (t, v) :: l, ρ => setp l (ext [(t, v)] ρ)
theorem setp_ext (t v l m ρ) : setp ((t, v) :: l) (ext m ρ) = setp l (ext ((t, v) :: m) ρ) := rfl
theorem setp_nil (ρ) : setp [] ρ = ρ := rfl

theorem Stars.app_right {l l' : List Assn} (f : ∀ h, Stars l h → Stars l' h) {m : List Assn} {h : Frag} (s : Stars (m ++ l) h) : Stars (m ++ l') h := by
  obtain ⟨h1, h2, a, b, c, rfl⟩ := Stars.append.1 s
  exact Stars.append.2 ⟨h1, h2, a, f _ b, c, rfl⟩

theorem setp_tmps (n : Nat) (ds : List Deferred) : ∀ (l : List (Nat × Value)) (ρ : Env), l.foldl (fun (tmps : Array Value) p => tmps.setIfInBounds p.1 p.2) (act n ds ρ).tmps = (act n ds (setp l ρ)).tmps := by
  intro l
  induction l with
  | nil => intro ρ; rfl
  | cons p l ih =>
    intro ρ
    rw [List.foldl_cons]
    have : (act n ds ρ).tmps.setIfInBounds p.1 p.2 = (act n ds (ext [(p.1, p.2)] ρ)).tmps := by
      have := congrArg Act.tmps (act_put n ds ρ p.1 p.2)
      exact this
    rw [this, ih]
    rfl

/-- What is asked at the end of a round's assignment, and of its body. -/
def AsgQ (P : Program) (l : Nat) (body : Code) (Q : Exit → Act → World → Prop) : Exit → Act → World → Prop :=
  Exit.then (fun a w => ∃ w2, (Instr.beginRound l).run P w = .ok () w2 ∧ body.wpIn (wideR (some l)) 0 P Q a w2) (fun _ _ _ => False)
def RndQ (P : Program) (l : Nat) (h0 : Frag) (w0 : World) (postT postF : List Assn) : Exit → Act → World → Prop :=
  roundPost P l fun e w' => ∃ (b : Bool) (h' : Frag), e = .returned (.bool b) ∧ Stars (if b then postT else postF) h' ∧ Sub h' w' ∧ Fr h0 w0 h' w'

section
variable {P : Program} {fn : FuncId} {tmps : Array Value} {ps : List Tmp} {assign body : Code} {r0 l : Nat} {w : World}

theorem run_getLoop {st pd} (h : w.heap[l]? = some (lrec fn tmps ps assign body r0 st pd)) : (Instr.getLoop l).run P w =
    .ok { state := st, pending := pd, fn := fn, tmps := tmps, params := ps.toArray, assign := assign, body := body, defers := r0 } w := by
  simp [Instr.getLoop, Sem.run_bind, getObj, Sem.run, h, lrec, Result.andThen]
theorem run_setLoop {st pd} {o : Obj} (h : w.heap[l]? = some (lrec fn tmps ps assign body r0 st pd)) : (setObj l o).run P w = .ok () (setBlk w l o) := by
  simp [setObj, Sem.run, h, lrec, setBlk]

theorem At.asg {n : Nat} {h0 : Frag} {w0 : World} {Q : Exit → Act → World → Prop} {ρ : Env} {hs hs' : List Assn} {pd : Option Code}
    (hb : Blk l (lrec fn tmps ps assign body r0 .ready pd) hs) (hr : Rep (pts l (lrec fn tmps ps assign body r0 .ready pd)) (pts l (lrec fn tmps ps assign body r0 .busy pd)) hs hs')
    (k : J P ⟨n, some l, [], h0, w0⟩ body Q ρ hs') : At ⟨n, some l, [], h0, w0⟩ (AsgQ P l body Q) .normal ρ hs := by
  intro w hi
  have hg := hb.inv hi
  refine ⟨setBlk w l (lrec fn tmps ps assign body r0 .busy pd), ?_, k _ (hi.upd hr)⟩
  unfold Instr.beginRound
  simp only [Sem.run_bind, run_getLoop hg, Result.andThen, run_setLoop hg]
  rfl

theorem run_endRound {st pd} (h : w.heap[l]? = some (lrec fn tmps ps assign body r0 st pd)) (j : Option Code) :
    (Instr.endRound l j).run P w = .ok (.bool j.isNone) (setBlk w l (lrec fn tmps ps assign body r0 (if j.isNone then .ready else .done) j)) := by
  unfold Instr.endRound
  simp only [Sem.run_bind, run_getLoop h, Result.andThen, run_setLoop h]
  rfl

theorem At.rndN {n : Nat} {h0 : Frag} {w0 : World} {postT postF : List Assn} {ρ : Env} {hs hs' : List Assn} {st : LoopState} {pd : Option Code}
    (hb : Blk l (lrec fn tmps ps assign body r0 st pd) hs) (hr : Rep (pts l (lrec fn tmps ps assign body r0 st pd)) (pts l (lrec fn tmps ps assign body r0 .ready none)) hs hs')
    (k : ∀ h, Stars hs' h → Stars postT h) : At ⟨n, some l, [], h0, w0⟩ (RndQ P l h0 w0 postT postF) .normal ρ hs := by
  intro w hi
  have hg := hb.inv hi
  obtain ⟨h, s, b, f⟩ := hi.upd (o' := lrec fn tmps ps assign body r0 .ready none) hr
  exact ⟨_, _, run_endRound hg none, true, h, rfl, k h s, b, f⟩

theorem At.rndX {n : Nat} {h0 : Frag} {w0 : World} {postT postF : List Assn} {ρ : Env} {hs hs' : List Assn} {st : LoopState} {pd : Option Code} (e : Exit) (c : Code) (hc : (e = .ret ∧ c = .ret) ∨ ∃ i, e = .exit i ∧ c = .exit i)
    (hb : Blk l (lrec fn tmps ps assign body r0 st pd) hs) (hr : Rep (pts l (lrec fn tmps ps assign body r0 st pd)) (pts l (lrec fn tmps ps assign body r0 .done (some c))) hs hs')
    (k : ∀ h, Stars hs' h → Stars postF h) : At ⟨n, some l, [], h0, w0⟩ (RndQ P l h0 w0 postT postF) e ρ hs := by
  intro w hi
  have hg := hb.inv hi
  obtain ⟨h, s, b, f⟩ := hi.upd (o' := lrec fn tmps ps assign body r0 .done (some c)) hr
  rcases hc with ⟨rfl, rfl⟩ | ⟨i, rfl, rfl⟩
  · exact ⟨_, _, run_endRound hg (some .ret), false, h, rfl, k h s, b, f⟩
  · exact ⟨_, _, run_endRound hg (some (.exit i)), false, h, rfl, k h s, b, f⟩
theorem At.rndR {n : Nat} {h0 : Frag} {w0 : World} {postT postF : List Assn} {ρ : Env} {hs hs' : List Assn} {st : LoopState} {pd : Option Code}
    (hb : Blk l (lrec fn tmps ps assign body r0 st pd) hs) (hr : Rep (pts l (lrec fn tmps ps assign body r0 st pd)) (pts l (lrec fn tmps ps assign body r0 .done (some .ret))) hs hs')
    (k : ∀ h, Stars hs' h → Stars postF h) : At ⟨n, some l, [], h0, w0⟩ (RndQ P l h0 w0 postT postF) .ret ρ hs := At.rndX .ret .ret (.inl ⟨rfl, rfl⟩) hb hr k
end

/-- The mark that a range over a function leaves among the deferred calls. -/
def markOf (r0 : Nat) : Deferred := { target := .collected r0, args := #[] }

/-- THE RULE. I k: between two rounds, k of them being over; Ix k c: round k has left by the jump c. -/
theorem J.rangeFunc {P : Program} {n : Nat} {ds : List Deferred} {h0 : Frag} {w0 : World} {Q : Exit → Act → World → Prop} {ρ : Env} {hs rest : List Assn} {f : Operand} {ps : List Tmp} {assign body : Code} {gf : FuncId} {cap : List Value}
    {own own' : List Assn} {xs : List (List Value)} (I : Nat → List Assn) (Ix : Nat → Code → List Assn)
    (hf : Ev n ρ f (.func (.func gf) #[] cap.toArray)) (it : Iter P gf cap own xs own') (he : Ent P gf) (sel : Sel own hs rest) (hps : ∀ x ∈ xs, x.length = ps.length) (h0I : ∀ h, Stars rest h → Stars (I 0) h)
    (round : ∀ l r0 fn k x h0 w0, xs[k]? = some x → J P ⟨n, some l, [], h0, w0⟩ assign
      (AsgQ P l body (RndQ P l h0 w0 (pts l (lrec fn (act n ds ρ).tmps ps assign body r0 .ready none) :: I (k + 1)) [exL fun c => pts l (lrec fn (act n ds ρ).tmps ps assign body r0 .done (some c)) :: Ix k c]))
      (setp (ps.zip x) ρ) (pts l (lrec fn (act n ds ρ).tmps ps assign body r0 .ready none) :: I k))
    (done : ∀ r0, At ⟨n, none, markOf r0 :: ds, h0, w0⟩ Q .normal ρ (pts r0 (.deferred (some [])) :: (own' ++ I xs.length)))
    (stop : ∀ r0 k c, k < xs.length → J P ⟨n, none, markOf r0 :: ds, h0, w0⟩ c Q ρ (pts r0 (.deferred (some [])) :: (own' ++ Ix k c))) :
    J P ⟨n, none, ds, h0, w0⟩ (.rangeFunc f ps.toArray assign body) Q ρ hs := by
  intro w hi
  refine wpIn_rangeFunc fun fn _ => ?_
  have hi1 := hi.alloc (.deferred (some []))
  have hs1 : (w.alloc (.deferred (some []))).heap.size = w.heap.size + 1 := by simp
  have hi2 := hi1.alloc (lrec fn (act n ds ρ).tmps ps assign body w.heap.size .ready none)
  rw [hs1] at hi2
  generalize hw2 : (w.alloc (.deferred (some []))).alloc (lrec fn (act n ds ρ).tmps ps assign body w.heap.size .ready none) = w2 at hi2
  have henter : (Instr.enterLoop fn (act n ds ρ).tmps ps.toArray assign body none).run P w = .ok (w.heap.size + 1, [markOf w.heap.size]) w2 := by
    rw [← hw2]
    have e : ∀ (o : Obj) (w : World), (newObj o).run P w = .ok w.heap.size (w.alloc o) := fun _ _ => rfl
    simp only [Instr.enterLoop, Sem.run_bind, Sem.run_pure, e, Result.andThen, hs1]
    rfl
  have hev := hf ds
  refine ⟨w.heap.size + 1, [markOf w.heap.size], w2, { target := .fn (.func gf) cap.toArray, args := #[.func (.yield (w.heap.size + 1)) #[] #[]] }, w2, gf, (.func (.yield (w.heap.size + 1)) #[] #[] :: cap).toArray, w2, henter, ?_, fun _ _ => trivial, ?_, fun hd => by simp [wideR] at hd, ?_⟩
  · show (resolve (act n ds ρ).eval (rangeCall f (w.heap.size + 1)) 0).run P w2 = _
    simp only [resolve, hev, Deferred.ofValue]
    simp [Act.eval]
  · show (callFunc gf (#[.func (.yield (w.heap.size + 1)) #[] #[]] ++ cap.toArray)).run P w2 = _
    rw [run_callFunc he]
    simp
  · rw [callsIn_wideR]
    have hy := it (w.heap.size + 1) (fun k => pts (w.heap.size + 1) (lrec fn (act n ds ρ).tmps ps assign body w.heap.size .ready none) :: I k)
      (fun k => [exL fun c => pts (w.heap.size + 1) (lrec fn (act n ds ρ).tmps ps assign body w.heap.size .done (some c)) :: Ix k c]) (by
        intro k x hx w3 h3 s3 b3
        have hg : w3.heap[w.heap.size + 1]? = some (lrec fn (act n ds ρ).tmps ps assign body w.heap.size .ready none) := Blk.get .own s3 b3
        have hlen : x.length = ps.length := hps x (List.mem_of_getElem? hx)
        refine ⟨fn, (act n ds (setp (ps.zip x) ρ)).tmps, assign, body, ?_, ?_⟩
        · unfold Instr.yield
          simp only [Sem.run_bind, run_getLoop hg, Result.andThen]
          have h1 : x.toArray.size = ps.toArray.size := by simpa using hlen
          rw [if_neg (by simpa using h1)]
          rw [← setp_tmps]
          have hz : ps.toArray.zip x.toArray = (ps.zip x).toArray := by simp
          rw [hz]
          simp [Sem.run_pure]
        · have hj := round (w.heap.size + 1) w.heap.size fn k x h3 w3 hx w3 (Inv.start _ s3 b3)
          exact roundIn_of_wpIn trivial hj)
    have hsel : Inv h0 w0 ((own ++ (pts (w.heap.size + 1) (lrec fn (act n ds ρ).tmps ps assign body w.heap.size .ready none) :: I 0)) ++ [pts w.heap.size (.deferred (some []))]) w2 := by
      refine Inv.mono hi2 fun h st => ?_
      have p1 : (pts (w.heap.size + 1) (lrec fn (act n ds ρ).tmps ps assign body w.heap.size .ready none) :: pts w.heap.size (.deferred (some [])) :: hs).Perm
          ((pts (w.heap.size + 1) (lrec fn (act n ds ρ).tmps ps assign body w.heap.size .ready none) :: pts w.heap.size (.deferred (some [])) :: own) ++ rest) :=
        List.Perm.cons _ (List.Perm.cons _ sel.perm)
      have st2 := Stars.app_right h0I (Stars.perm p1 st)
      refine Stars.perm ?_ st2
      rw [List.cons_append, List.cons_append, List.append_assoc, List.cons_append]
      refine List.Perm.trans ?_ List.perm_middle.symm
      refine List.Perm.cons _ ?_
      rw [← List.append_assoc]
      exact (List.perm_append_singleton _ _).symm
    obtain ⟨h1, s1, b1, fr⟩ := Inv.split hsel
    refine (hy.calls w2 h1 s1 b1).mono ?_
    rintro e w3 ⟨z, h', hz, rfl, s', b', f'⟩
    cases z with
    | none =>
      have hi3 := fr h' w3 _ s' b' f'
      have hbl : Blk (w.heap.size + 1) (lrec fn (act n ds ρ).tmps ps assign body w.heap.size .ready none) (pts (w.heap.size + 1) (lrec fn (act n ds ρ).tmps ps assign body w.heap.size .ready none) :: (own' ++ I xs.length ++ [pts w.heap.size (.deferred (some []))])) := .own
      have hi4 : Inv h0 w0 (pts (w.heap.size + 1) (lrec fn (act n ds ρ).tmps ps assign body w.heap.size .ready none) :: (own' ++ I xs.length ++ [pts w.heap.size (.deferred (some []))])) w3 := by
        refine Inv.perm ?_ hi3
        show ((own' ++ (pts (w.heap.size + 1) (lrec fn (act n ds ρ).tmps ps assign body w.heap.size .ready none) :: I xs.length)) ++ [pts w.heap.size (.deferred (some []))]).Perm _
        rw [List.append_assoc, List.cons_append, List.append_assoc]
        exact List.perm_middle
      have hg := hbl.inv hi4
      refine ⟨none, setBlk w3 (w.heap.size + 1) (lrec fn (act n ds ρ).tmps ps assign body w.heap.size .exhausted none), ?_, ?_⟩
      · unfold Instr.endLoop
        simp only [Sem.run_bind, run_getLoop hg, Result.andThen]
        rw [if_neg (by decide)]
        simp only [Sem.run_bind, run_setLoop hg, Result.andThen, Sem.run_pure]
        rfl
      · refine done w.heap.size _ ?_
        have hi5 := hi4.upd (o' := lrec fn (act n ds ρ).tmps ps assign body w.heap.size .exhausted none) .here
        exact (hi5.mono fun h st => st.tail).perm (List.perm_append_singleton _ _)
    | some k =>
      have hi3 := fr h' w3 _ s' b' f'
      have hi3' : Inv h0 w0 (exL (fun c => pts (w.heap.size + 1) (lrec fn (act n ds ρ).tmps ps assign body w.heap.size .done (some c)) :: Ix k c) :: (own' ++ [pts w.heap.size (.deferred (some []))])) w3 := by
        refine Inv.perm ?_ hi3
        show ((own' ++ [exL fun c => pts (w.heap.size + 1) (lrec fn (act n ds ρ).tmps ps assign body w.heap.size .done (some c)) :: Ix k c]) ++ [pts w.heap.size (.deferred (some []))]).Perm _
        rw [List.append_assoc]
        exact List.perm_middle
      obtain ⟨c, hi4⟩ := Inv.openE hi3'
      rw [List.cons_append] at hi4
      have hg := Blk.inv .own hi4
      refine ⟨some c, setBlk w3 (w.heap.size + 1) (lrec fn (act n ds ρ).tmps ps assign body w.heap.size .exhausted (some c)), ?_, ?_⟩
      · unfold Instr.endLoop
        simp only [Sem.run_bind, run_getLoop hg, Result.andThen]
        rw [if_neg (by decide)]
        simp only [Sem.run_bind, run_setLoop hg, Result.andThen, Sem.run_pure]
        rfl
      · refine stop w.heap.size k c (hz k rfl) _ ?_
        have hi5 := hi4.upd (o' := lrec fn (act n ds ρ).tmps ps assign body w.heap.size .exhausted (some c)) .here
        refine (hi5.mono fun h st => st.tail).perm ?_
        rw [← List.append_assoc]
        refine List.Perm.trans (List.perm_append_singleton _ _) (List.Perm.cons _ List.perm_append_comm)

/-- A return behind a range over a function: the mark is taken up. -/
theorem At.retM {P : Program} {fn : Func} {X : Type} {R : X → Prop} {rt : X → Value} {post : X → List Assn} {ρ : Env} {hs hs1 : List Assn} {n r0 : Nat} {h0 w0 v} (x : X) (hR : R x)
    (tk : Take (pts r0 (.deferred (some []))) hs hs1) (hres : ResV P ⟨n, none, [markOf r0], h0, w0⟩ fn ρ hs1 v) (hv : v = rt x) (hpost : ∀ h, Stars hs1 h → Stars (post x) h) :
    At ⟨n, none, [markOf r0], h0, w0⟩ (RetQ P fn h0 w0 R rt post) .ret ρ hs := by
  intro w hi
  have hi1 : Inv h0 w0 (pts r0 (.deferred (some [])) :: hs1) w := Inv.perm tk.perm hi
  have hg := Blk.inv .own hi1
  have hi2 := hi1.upd (o' := .deferred none) .here
  have hi3 := hi2.mono fun h st => st.tail
  obtain ⟨h, s, b, f⟩ := id hi3
  refine ⟨by simp, .inl ⟨r0, setBlk w r0 (.deferred none), rfl, ?_, ?_⟩⟩
  · simp [Instr.takeDeferred, Sem.run_bind, getObj, setObj, Sem.run, hg, Result.andThen, setBlk]
  · exact ⟨v, hres _ hi3, x, h, hR, by rw [hv], hpost h s, b, f⟩
end Go.Proofs.YtbhladkbnleeoaaGreat

namespace Go.Proofs.YtbhladkbnleeoaaGreat

/-- In this state the slice at a holds xs. -/
def SIn (hs : List Assn) (a : Option Addr) (s : Nat) (xs : List (List Value)) : Prop := ∀ h0 w0 w, Inv h0 w0 hs w → Flat s xs ∧
  (0 < xs.length → ∃ (b off : Nat) (cs : List Value) (e : TypeId) (fr : Nat × Nat), a = some ⟨b, off, none⟩ ∧ w.heap[b]? = some (.cells cs.toArray e fr) ∧ (cs.drop off).take (xs.length * s) = xs.flatten)

theorem SIn.row {hs hs1 : List Assn} {a cap e s xs} (t : Take (row a cap e s xs) hs hs1) : SIn hs a s xs := by
  intro h0 w0 w i
  rcases row_open t i with ⟨hf, ⟨rfl, rfl, rfl, i'⟩ | ⟨b, cs, lo, hi, rfl, i', r1, r2, r3, r4, r5⟩⟩
  · exact ⟨hf, fun h => absurd h (Nat.lt_irrefl 0)⟩
  · exact ⟨hf, fun _ => ⟨b, 0, cs, e, (lo, hi), rfl, Blk.inv .own i', by rw [List.drop_zero]; exact r5⟩⟩
/-- The address of the cell p of the element i. -/
def eadr (a : Option Addr) (s i p : Nat) : Value := .pointer (a.map fun ad => ad.add (i * s + p))

theorem flat_elem {cs : List Value} {off : Nat} {xs : List (List Value)} {s : Nat} (hf : Flat s xs) (ht : (cs.drop off).take (xs.length * s) = xs.flatten) {i : Nat} {x : List Value} (hx : xs[i]? = some x) : (cs.drop (off + i * s)).take s = x := by
  have := row_elem (cs := cs.drop off) hf ht hx
  rwa [List.drop_drop] at this

section
variable {P : Program} {C : Cx} {hs hs1 : List Assn} {ρ : Env} {d : Option Tmp} {ty : TypeId} {pos : String} {af : Array Edge} {g : Option (Nat × Bool)} {K : Value → List Assn → Prop}
  {x y : Operand} {v : Value} {t e : TypeId} {s i p o cap : Nat} {a : Option Addr} {xs : List (List Value)} {u vs : List Value}

theorem Rd.sIdx {k : IntKind} {j : Int} {n : Nat} (hu : ∀ w, (underlying t).run P w = .ok (.slice e) w) (hz : ∀ w, (sizeOf e).run P w = .ok s w) (h : Ev C.n ρ x (.slice a n cap)) (hj : Ev C.n ρ y (.int k j)) (hin : SIn hs a s xs) (hn : xs.length = n)
    (h0 : 0 ≤ j) (h1 : j < n) : Rd P C hs ρ ⟨d, .indexAddr t x y, ty, pos, af, g⟩ (eadr a s j.toNat 0) := by
  subst hn
  exact Rd.ex (fun c h => by cases h) (Instr.indexAt t (.slice a xs.length cap) (.int k j)) (fun ds => by simp only [execOp, h ds, hj ds]) fun w hi => by
    obtain ⟨b, off, cs, e', fr, rfl, _, _⟩ := (hin _ _ w hi).2 (by omega)
    simp [Instr.indexAt, asIntOf, Sem.run_bind, hu w, hz w, Result.andThen, h0, h1, eadr]

theorem Rd.sFld (hf : Fld P t p o) (h : Ev C.n ρ x (eadr a s i u.length)) (hin : SIn hs a s xs) (hl : i < xs.length) : Rd P C hs ρ ⟨d, .fieldAddr t x p, ty, pos, af, g⟩ (eadr a s i (u.length + o)) :=
  Rd.ex (fun c h => by cases h) (Instr.fieldAt t (eadr a s i u.length) p) (fun ds => by simp only [execOp, h ds]) fun w hi => by
    obtain ⟨b, off, cs, e', fr, rfl, _, _⟩ := (hin _ _ w hi).2 (by omega)
    simp only [eadr, Option.map_some, hf _ w, add_off]
    congr 4; omega
/-- A field of an element. -/
theorem Rd.sFld0 (hf : Fld P t p o) (h : Ev C.n ρ x (eadr a s i 0)) (hin : SIn hs a s xs) (hl : i < xs.length) : Rd P C hs ρ ⟨d, .fieldAddr t x p, ty, pos, af, g⟩ (eadr a s i o) := by
  have := Rd.sFld (P := P) (C := C) (hs := hs) (d := d) (ty := ty) (pos := pos) (af := af) (g := g) (u := []) hf h hin hl
  rwa [List.length_nil, Nat.zero_add] at this

theorem Rd.sLdA (ht : ∀ w, (isAgg t).run P w = .ok true w) (hz : ∀ w, (sizeOf t).run P w = .ok s w) (h : Ev C.n ρ x (eadr a s i 0)) (hin : SIn hs a s xs) (hx : xs[i]? = some u) :
    Rd P C hs ρ ⟨d, .load t x, ty, pos, af, g⟩ (.agg u.toArray) :=
  Rd.ex (fun c h => by cases h) (Instr.loadAt t (eadr a s i 0)) (fun ds => by simp only [execOp, h ds]) fun w hi => by
    obtain ⟨hf, h2⟩ := hin _ _ w hi
    have hlt := (List.getElem?_eq_some_iff.1 hx).1
    obtain ⟨b, off, cs, e', fr, rfl, hb, ht'⟩ := h2 (by omega)
    simp only [eadr, Option.map_some, add_off, Instr.loadAt, Instr.sureAddr, loadVar, Sem.run_bind, Sem.run_pure, ht w, hz w, Result.andThen, if_true, Nat.add_zero,
      run_loadRow hb (flat_elem hf ht' hx) (hf u (List.mem_of_getElem? hx))]
theorem Rd.sLd (ht : ∀ w, (isAgg t).run P w = .ok false w) (h : Ev C.n ρ x (eadr a s i p)) (hin : SIn hs a s xs) (hx : xs[i]? = some u) (hv : u[p]? = some v) :
    Rd P C hs ρ ⟨d, .load t x, ty, pos, af, g⟩ v :=
  Rd.ex (fun c h => by cases h) (Instr.loadAt t (eadr a s i p)) (fun ds => by simp only [execOp, h ds]) fun w hi => by
    obtain ⟨hf, h2⟩ := hin _ _ w hi
    have hlt := (List.getElem?_eq_some_iff.1 hx).1
    obtain ⟨b, off, cs, e', fr, rfl, hb, ht'⟩ := h2 (by omega)
    have he := flat_elem hf ht' hx
    have hc : w.cell? ⟨b, off + (i * s + p), none⟩ = some v := by
      rw [cell_of hb, ← hv, ← he]
      have hps : p < s := by
        have := (List.getElem?_eq_some_iff.1 hv).1
        rwa [hf u (List.mem_of_getElem? hx)] at this
      rw [List.getElem?_take_of_lt hps, List.getElem?_drop, Nat.add_assoc]
    simp only [eadr, Option.map_some, add_off, Instr.loadAt, Instr.sureAddr, loadVar, Sem.run_bind, Sem.run_pure, ht w, Result.andThen]
    simp [load, Sem.run, hc]

theorem splice_elem {cs : List Value} {xs : List (List Value)} {s i p : Nat} {u vs : List Value} (hf : Flat s xs) (ht : cs.take (xs.length * s) = xs.flatten) (hl : xs.length * s ≤ cs.length) (hx : xs[i]? = some u) (hp : p + vs.length ≤ s) :
    (splice cs (i * s + p) vs).take ((xs.set i (splice u p vs)).length * s) = (xs.set i (splice u p vs)).flatten := by
  have hlt := (List.getElem?_eq_some_iff.1 hx).1
  have hul := hf u (List.mem_of_getElem? hx)
  have hb : (i + 1) * s ≤ xs.length * s := Nat.mul_le_mul_right s hlt
  rw [Nat.add_mul, Nat.one_mul] at hb
  have hul' : (splice u p vs).length = s := by rw [splice_length (by omega), hul]
  have hf' : Flat s (xs.set i (splice u p vs)) := by
    intro y hy
    rcases List.mem_or_eq_of_mem_set hy with h | h
    · exact hf y h
    · rw [h]; exact hul'
  apply List.ext_getElem?
  intro j
  have hlen : (xs.set i (splice u p vs)).length = xs.length := List.length_set
  by_cases hj : j < xs.length * s
  · have hs0 : 0 < s := by
      rcases Nat.eq_zero_or_pos s with h | h
      · subst h; simp at hj
      · exact h
    rw [hlen, List.getElem?_take_of_lt hj]
    have hq : j / s < xs.length := Nat.div_lt_of_lt_mul (by rw [Nat.mul_comm]; exact hj)
    have hr : j % s < s := Nat.mod_lt _ hs0
    have hjd : j = j / s * s + j % s := by rw [Nat.mul_comm]; exact (Nat.div_add_mod j s).symm
    have key : ∀ (ys : List (List Value)), Flat s ys → ∀ y, ys[j / s]? = some y → ys.flatten[j]? = y[j % s]? := by
      intro ys hys y hy
      have := hys.get hy
      rw [← this, List.getElem?_take_of_lt hr, List.getElem?_drop, ← hjd]
    have hcs : cs[j]? = xs.flatten[j]? := by rw [← ht, List.getElem?_take_of_lt hj]
    have hspl : (splice cs (i * s + p) vs)[j]? = if i * s + p ≤ j ∧ j < i * s + p + vs.length then vs[j - (i * s + p)]? else cs[j]? := by
      unfold splice
      have h1 : (cs.take (i * s + p)).length = i * s + p := by simp; omega
      split
      · rename_i h
        rw [List.append_assoc, List.getElem?_append_right (by omega), h1, List.getElem?_append_left (by omega)]
      · rename_i h
        by_cases h2 : j < i * s + p
        · rw [List.append_assoc, List.getElem?_append_left (by omega), List.getElem?_take_of_lt h2]
        · rw [List.getElem?_append_right (by simp; omega), List.getElem?_drop]
          congr 1
          simp; omega
    rw [hspl]
    by_cases hi : j / s = i
    · have hset : (xs.set i (splice u p vs))[j / s]? = some (splice u p vs) := by rw [hi]; exact List.getElem?_set_self hlt
      rw [key _ hf' _ hset]
      rw [hi] at hjd
      have hspl2 : (splice u p vs)[j % s]? = if p ≤ j % s ∧ j % s < p + vs.length then vs[j % s - p]? else u[j % s]? := by
        unfold splice
        have h1 : (u.take p).length = p := by simp; omega
        split
        · rename_i h
          rw [List.append_assoc, List.getElem?_append_right (by omega), h1, List.getElem?_append_left (by omega)]
        · rename_i h
          by_cases h2 : j % s < p
          · rw [List.append_assoc, List.getElem?_append_left (by omega), List.getElem?_take_of_lt h2]
          · rw [List.getElem?_append_right (by simp; omega), List.getElem?_drop]
            congr 1
            simp; omega
      rw [hspl2, hcs, key xs hf u (by rw [hi]; exact hx)]
      by_cases hc : p ≤ j % s ∧ j % s < p + vs.length
      · rw [if_pos hc, if_pos (by omega)]
        congr 1; omega
      · rw [if_neg hc, if_neg (by omega)]
    · have hset : (xs.set i (splice u p vs))[j / s]? = xs[j / s]? := List.getElem?_set_ne (fun h => hi h.symm)
      obtain ⟨y, hy⟩ : ∃ y, xs[j / s]? = some y := ⟨_, List.getElem?_eq_getElem hq⟩
      rw [key _ hf' y (by rw [hset]; exact hy), hcs, key xs hf y hy]
      rw [if_neg]
      rintro ⟨h1, h2⟩
      apply hi
      have : j / s * s < (i + 1) * s := by rw [Nat.add_mul, Nat.one_mul]; omega
      have a1 : j / s < i + 1 := Nat.lt_of_mul_lt_mul_right this
      have : i * s < (j / s + 1) * s := by rw [Nat.add_mul, Nat.one_mul]; omega
      have a2 : i < j / s + 1 := Nat.lt_of_mul_lt_mul_right this
      omega
  · rw [hlen, List.getElem?_eq_none (by simp; omega), List.getElem?_eq_none (by rw [hf'.length, hlen]; omega)]

theorem Ef.sStG {q : Nat} {hs' : List Assn} (hz : ∀ w, (sizeOf t).run P w = .ok q w) (h : Ev C.n ρ x (eadr a s i p)) (hy : Ev C.n ρ y v) (hvc : v.cells = vs.toArray) (hq : vs.length = q) (hv : ∀ v ∈ vs, v.oneCell' = true)
    (hop : ∀ w, C.inv hs w → C.inv (row a cap e s xs :: hs1) w) (hx : xs[i]? = some u) (hp : p + q ≤ s) (hk : ∀ h, Stars (row a cap e s (xs.set i (splice u p vs)) :: hs1) h → Stars hs' h) (k : K undef hs') :
    Ef P C hs ρ ⟨d, .store t x y, ty, pos, af, g⟩ K :=
  Ef.ex0 (fun c h => by cases h) (Instr.storeAt t (eadr a s i p) v) (fun ds => by simp only [execOp, h ds, hy ds]) fun w hi => by
    have hlt := (List.getElem?_eq_some_iff.1 hx).1
    rcases row_open .here (hop w hi) with ⟨hf, ⟨rfl, rfl, rfl, i'⟩ | ⟨b, cs, lo, hi', rfl, i', r1, r2, r3, r4, r5⟩⟩
    · exact absurd hlt (Nat.not_lt_zero _)
    · have hul := hf u (List.mem_of_getElem? hx)
      have hb : (i + 1) * s ≤ xs.length * s := Nat.mul_le_mul_right s hlt
      rw [Nat.add_mul, Nat.one_mul] at hb
      have hb2 : xs.length * s ≤ cap * s := Nat.mul_le_mul_right s r3
      have h1 := run_storeRow (P := P) vs (i := 0) (off := i * s + p) (Blk.inv .own i') (by omega) (by omega) hv
      refine ⟨_, _, ?_, (i'.upd .here).mono fun h st => hk h (row_mk (cs := splice cs (i * s + p) vs) (xs := xs.set i (splice u p vs)) ?_ r1 ?_ ?_ r4 ?_ st), k⟩
      · simp only [eadr, Option.map_some, add_off, Instr.storeAt, Instr.sureAddr, storeVar, Sem.run_bind, Sem.run_pure, hz w, Result.andThen, hvc, Nat.zero_add]
        simp only [Nat.add_zero] at h1
        simp [hq, h1]
      · intro y hy
        rcases List.mem_or_eq_of_mem_set hy with h | h
        · exact hf y h
        · rw [h, splice_length (by omega), hul]
      · rw [splice_length (by omega), r2]
      · rw [List.length_set]; exact r3
      · exact splice_elem hf r5 (by omega) hx (by omega)

theorem Ef.sStA {q : Nat} (hz : ∀ w, (sizeOf t).run P w = .ok q w) (h : Ev C.n ρ x (eadr a s i p)) (hy : Ev C.n ρ y v) (hvc : v.cells = vs.toArray) (hq : vs.length = q) (hv : ∀ v ∈ vs, v.oneCell' = true)
    (tk : Take (row a cap e s xs) hs hs1) (hx : xs[i]? = some u) (hp : p + q ≤ s) (k : K undef (row a cap e s (xs.set i (splice u p vs)) :: hs1)) :
    Ef P C hs ρ ⟨d, .store t x y, ty, pos, af, g⟩ K := Ef.sStG hz h hy hvc hq hv (fun _ i => Inv.perm tk.perm i) hx hp (fun _ s => s) k

theorem splice_set {u : List Value} {p : Nat} {v : Value} (h : p < u.length) : splice u p [v] = u.set p v := by
  unfold splice
  rw [List.set_eq_take_append_cons_drop, if_pos h]
  simp

theorem Ef.sSt (hz : ∀ w, (sizeOf t).run P w = .ok 1 w) (h : Ev C.n ρ x (eadr a s i p)) (hy : Ev C.n ρ y v) (hv : v.oneCell' = true)
    (tk : Take (row a cap e s xs) hs hs1) (hx : xs[i]? = some u) (hp : p < s) (hu : u.length = s) (k : K undef (row a cap e s (xs.set i (u.set p v)) :: hs1)) :
    Ef P C hs ρ ⟨d, .store t x y, ty, pos, af, g⟩ K := by
  have hcells : v.cells = [v].toArray := by cases v <;> first | rfl | exact absurd hv (by simp [Value.oneCell'])
  refine Ef.sStA (vs := [v]) hz h hy hcells rfl (by simpa using hv) tk hx (by omega) ?_
  rw [splice_set (by omega)]
  exact k
end

theorem cons_one {v : Value} {l : List Value} (h : v.oneCell' = true) (hl : ∀ u ∈ l, u.oneCell' = true) : ∀ u ∈ v :: l, u.oneCell' = true := by
  intro u hu
  rcases List.mem_cons.1 hu with rfl | hu
  · exact h
  · exact hl u hu

/-! ### facts among the assertions -/
theorem J.openP {P : Program} {C : Cx} {Q : Exit → Act → World → Prop} {ρ : Env} {p : Prop} {hs hs1 : List Assn} {c : Code} (t : Take (pure_ p) hs hs1) (k : p → J P C c Q ρ hs1) : J P C c Q ρ hs := by
  intro w i
  obtain ⟨h, ⟨h1, h2, a, s, cm, rfl⟩, b, f⟩ := Inv.perm t.perm i
  unfold pure_ at a
  exact k a w ⟨_, by rw [jn_comm cm]; exact Stars.weak s cm.symm, b, f⟩
theorem At.openP {C : Cx} {Q : Exit → Act → World → Prop} {e : Exit} {ρ : Env} {p : Prop} {hs hs1 : List Assn} (t : Take (pure_ p) hs hs1) (k : p → At C Q e ρ hs1) : At C Q e ρ hs := by
  intro w i
  obtain ⟨h, ⟨h1, h2, a, s, cm, rfl⟩, b, f⟩ := Inv.perm t.perm i
  unfold pure_ at a
  exact k a w ⟨_, by rw [jn_comm cm]; exact Stars.weak s cm.symm, b, f⟩
theorem Stars.fact {p : Prop} (hp : p) {l : List Assn} {h : Frag} (s : Stars l h) : Stars (pure_ p :: l) h :=
  ⟨fun _ => none, h, by unfold pure_; exact hp, s, fun _ => .inl rfl, by funext b; rfl⟩
theorem Stars.factE {p : Prop} (hp : p) {l : List Assn} {h : Frag} (s : Stars l h) : Stars (l ++ [pure_ p]) h :=
  Stars.perm (List.perm_append_singleton _ _).symm (Stars.fact hp s)

/-! ### iterators whose rounds keep one assertion -/
theorem Stars.wrap {l m : List Assn} {h : Frag} : Stars (m ++ [Stars l]) h ↔ Stars (m ++ l) h := by
  constructor
  · intro s
    obtain ⟨h1, h2, a, b, c, rfl⟩ := Stars.append.1 s
    obtain ⟨h3, h4, d, _, f, rfl⟩ := b
    exact Stars.append.2 ⟨h1, _, a, Stars.weak d f, c, rfl⟩
  · intro s
    obtain ⟨h1, h2, a, b, c, rfl⟩ := Stars.append.1 s
    exact Stars.append.2 ⟨h1, h2, a, Stars.single b, c, rfl⟩

theorem Iter.of {P : Program} {gf : FuncId} {cap : List Value} {own own' : List Assn} {xs : List (List Value)} {n : Nat} (hn : xs.length = n)
    (f : ∀ (l : Nat) (J Jx : Nat → Assn), (∀ k x, xs[k]? = some x → Yields P l x [J k] [J (k + 1)] [Jx k]) →
      Fn P gf (.func (.yield l) #[] #[] :: cap) (own ++ [J 0]) (X := Option Nat) (fun z => ∀ k, z = some k → k < n) (fun _ => .tuple #[])
      (fun z => own' ++ [match z with | none => J n | some k => Jx k])) : Iter P gf cap own xs own' := by
  subst hn
  intro l J Jx hy
  have g := f l (fun k => Stars (J k)) (fun k => Stars (Jx k)) (fun k x hx w h s b => by
    have s' : Stars (J k) h := Stars.wrap (m := []).1 s
    obtain ⟨fn, tmps, asn, bo, hr, hR⟩ := hy k x hx w h s' b
    refine ⟨fn, tmps, asn, bo, hr, hR.mono ?_⟩
    rintro e w' ⟨c, h', rfl, t, d, e⟩
    refine ⟨c, h', rfl, ?_, d, e⟩
    cases c
    · exact Stars.wrap (m := []).2 t
    · exact Stars.wrap (m := []).2 t)
  refine ⟨g.ent, fun w h s b => (g.calls w h (Stars.wrap.2 s) b).mono ?_⟩
  rintro e w' ⟨z, h', hz, rfl, t, d, e⟩
  refine ⟨z, h', hz, rfl, ?_, d, e⟩
  cases z
  · exact Stars.wrap.1 t
  · exact Stars.wrap.1 t

end Go.Proofs.YtbhladkbnleeoaaGreat

namespace Go.Proofs.YtbhladkbnleeoaaGreat

theorem J.openT {P : Program} {C : Cx} {Q : Exit → Act → World → Prop} {ρ : Env} {hs hs1 : List Assn} {A : Assn} {c : Code} {X : Type} {p : X → Prop} {L : X → List Assn} (t : Take A hs hs1) (hA : ∀ h, A h → ∃ x, p x ∧ Stars (L x) h)
    (k : ∀ x, p x → J P C c Q ρ (L x ++ hs1)) : J P C c Q ρ hs := fun w i => (J.openA hA k) w (Inv.perm t.perm i)

theorem J.know {P : Program} {C : Cx} {Q : Exit → Act → World → Prop} {ρ : Env} {hs : List Assn} {c : Code} {p : Prop} (hp : ∀ h, Stars hs h → p) (k : p → J P C c Q ρ hs) : J P C c Q ρ hs := fun w i =>
  let ⟨_, s, _⟩ := i; k (hp _ s) w i
theorem At.know {C : Cx} {Q : Exit → Act → World → Prop} {e : Exit} {ρ : Env} {hs : List Assn} {p : Prop} (hp : ∀ h, Stars hs h → p) (k : p → At C Q e ρ hs) : At C Q e ρ hs := fun w i =>
  let ⟨_, s, _⟩ := i; k (hp _ s) w i
theorem JL.live {P : Program} {C : Cx} {ops : Array Oper} {Q : Exit → Act → World → Prop} {rest : List Oper} {ρ : Env} {hs : List Assn} {K : List (Nat × Value)} (hl : Has K ρ) (h : ∀ ρ', JL P C ops Q rest (ext K ρ') hs) : JL P C ops Q rest ρ hs := by
  have := h ρ
  rwa [ext_has hl] at this
theorem Ef.csq {P : Program} {C : Cx} {hs : List Assn} {ρ : Env} {o : Oper} {K : Value → List Assn → Prop} (h : Ef P C hs ρ o fun u l' => ∃ l'', (∀ h, Stars l' h → Stars l'' h) ∧ K u l'') : Ef P C hs ρ o K := by
  intro w hi
  rcases h w hi with ⟨u, hs', w', hr, hi2, l'', hl, hk⟩ | ⟨f, ar, w', hr, hp⟩ | ⟨l0, fn, tm, asn, bo, w', hr, hp⟩
  · exact .inl ⟨u, l'', w', hr, hi2.mono hl, hk⟩
  · refine .inr (.inl ⟨f, ar, w', hr, hp.mono ?_⟩)
    rintro e' w2 ⟨u, hs', he, hi2, l'', hl, hk⟩
    exact ⟨u, l'', he, hi2.mono hl, hk⟩
  · refine .inr (.inr ⟨l0, fn, tm, asn, bo, w', hr, hp.mono ?_⟩)
    rintro e' w2 ⟨u, hs', he, hi2, l'', hl, hk⟩
    exact ⟨u, l'', he, hi2.mono hl, hk⟩

/-! ### bytes -/
def b1s (l : List UInt8) : List (List Value) := l.map fun c => [.int .u8 (c.toNat : Int)]
@[simp] theorem b1s_length (l : List UInt8) : (b1s l).length = l.length := by simp [b1s]
theorem b1s_flatten (l : List UInt8) : (b1s l).flatten = bv l := by
  induction l with
  | nil => rfl
  | cons c l ih =>
    show [_] ++ (b1s l).flatten = _
    rw [ih]; rfl
theorem b1s_flat (l : List UInt8) : Flat 1 (b1s l) := by
  intro x hx
  obtain ⟨c, _, rfl⟩ := List.mem_map.1 hx
  rfl
theorem b1s_get {l : List UInt8} {i : Nat} {c : UInt8} (h : l[i]? = some c) : (b1s l)[i]? = some [.int .u8 (c.toNat : Int)] := by simp [b1s, h]
theorem b1s_set (l : List UInt8) (i : Nat) (c : UInt8) : (b1s l).set i [.int .u8 (c.toNat : Int)] = b1s (l.set i c) := by simp [b1s, List.map_set]

/-- A slice of bytes that is owned. Its value is `.slice a l.length cap`. -/
@[irreducible] def bytesA (a : Option Addr) (cap : Nat) (l : List UInt8) : Assn := fun h => ∃ e, row a cap e 1 (b1s l) h

theorem bytes_open {a cap l} {hs hs1 : List Assn} {h0 : Frag} {w0 w : World} (t : Take (bytesA a cap l) hs hs1) (i : Inv h0 w0 hs w) : ∃ e, Inv h0 w0 (row a cap e 1 (b1s l) :: hs1) w := by
  obtain ⟨h, ⟨h1, h2, p, q, c, rfl⟩, b, f⟩ := Inv.perm t.perm i
  unfold bytesA at p
  obtain ⟨e, p⟩ := p
  exact ⟨e, _, ⟨h1, h2, p, q, c, rfl⟩, b, f⟩
theorem bytes_shut {a cap l e} {hs : List Assn} {h : Frag} (s : Stars (row a cap e 1 (b1s l) :: hs) h) : Stars (bytesA a cap l :: hs) h := by
  obtain ⟨h1, h2, p, q, c, rfl⟩ := s
  exact ⟨h1, h2, by unfold bytesA; exact ⟨e, p⟩, q, c, rfl⟩
theorem J.openBytes {P : Program} {C : Cx} {Q : Exit → Act → World → Prop} {ρ : Env} {hs hs1 : List Assn} {c : Code} {a cap l} (t : Take (bytesA a cap l) hs hs1) (k : ∀ e, J P C c Q ρ (row a cap e 1 (b1s l) :: hs1)) : J P C c Q ρ hs := fun w i => by
  obtain ⟨e, i'⟩ := bytes_open t i
  exact k e w i'
theorem SIn.bytes {hs hs1 : List Assn} {a cap l} (t : Take (bytesA a cap l) hs hs1) : SIn hs a 1 (b1s l) := fun h0 w0 w i => by
  obtain ⟨e, i'⟩ := bytes_open t i
  exact SIn.row .here h0 w0 w i'
theorem bytes_mk {b cap lo hi : Nat} {e : TypeId} {l : List UInt8} {hs : List Assn} {h : Frag} {cs : List Value} (hfr : hi ≤ lo ∨ cap ≤ lo) (hc : cs.length = cap) (hl : l.length ≤ cap) (hm : cap ≤ maxLen) (ht : cs.take l.length = bv l)
    (s : Stars (pts b (.cells cs.toArray e (lo, hi)) :: hs) h) : Stars (bytesA (some ⟨b, 0, none⟩) cap l :: hs) h :=
  bytes_shut (row_mk (e := e) (cs := cs) (b1s_flat l) (by rw [Nat.mul_one]; exact hfr) (by rw [Nat.mul_one]; exact hc) (by rw [b1s_length]; exact hl) hm (by rw [b1s_length, Nat.mul_one, b1s_flatten]; exact ht) s)
theorem bytes_nil {hs : List Assn} {h : Frag} (s : Stars hs h) : Stars (bytesA none 0 [] :: hs) h := bytes_shut (e := 0) (row_nil 0 1 s)
theorem bytes_all {b : Nat} {e : TypeId} {l : List UInt8} {hs : List Assn} {h : Frag} {n : Nat} (hn : l.length = n) (hm : n ≤ maxLen) (s : Stars (pts b (.cells (bv l).toArray e) :: hs) h) : Stars (bytesA (some ⟨b, 0, none⟩) n l :: hs) h :=
  bytes_mk (lo := 0) (hi := 0) (.inl (Nat.le_refl _)) (by simp [hn]) (by omega) hm (by rw [← bv_length, List.take_length]) s

section
variable {P : Program} {C : Cx} {hs hs1 : List Assn} {ρ : Env} {d : Option Tmp} {ty : TypeId} {pos : String} {af : Array Edge} {g : Option (Nat × Bool)} {K : Value → List Assn → Prop}
  {x y : Operand} {v : Value} {t t' e : TypeId} {i cap n : Nat} {a : Option Addr} {l : List UInt8} {c : UInt8}

theorem Rd.byIdx {k : IntKind} {j : Int} (hu : ∀ w, (underlying t).run P w = .ok (.slice e) w) (hz : ∀ w, (sizeOf e).run P w = .ok 1 w) (h : Ev C.n ρ x (.slice a n cap)) (hj : Ev C.n ρ y (.int k j))
    (hin : SIn hs a 1 (b1s l)) (hn : l.length = n) (h0 : 0 ≤ j) (h1 : j < n) : Rd P C hs ρ ⟨d, .indexAddr t x y, ty, pos, af, g⟩ (eadr a 1 j.toNat 0) := by
  subst hn
  exact Rd.sIdx (cap := cap) hu hz h hj hin (b1s_length l) h0 h1
theorem Rd.byLd (ht : ∀ w, (isAgg t).run P w = .ok false w) (h : Ev C.n ρ x (eadr a 1 i 0)) (hin : SIn hs a 1 (b1s l)) (hc : i < l.length) : Rd P C hs ρ ⟨d, .load t x, ty, pos, af, g⟩ (.int .u8 ((l.getD i 0).toNat : Int)) :=
  Rd.sLd ht h hin (b1s_get (c := l.getD i 0) (by simp [hc])) rfl
theorem Ef.bySt (hz : ∀ w, (sizeOf t).run P w = .ok 1 w) (h : Ev C.n ρ x (eadr a 1 i 0)) (hy : Ev C.n ρ y (.int .u8 (c.toNat : Int))) (tk : Take (bytesA a cap l) hs hs1) (hi : i < l.length) (k : K undef (bytesA a cap (l.set i c) :: hs1)) :
    Ef P C hs ρ ⟨d, .store t x y, ty, pos, af, g⟩ K := fun w hi' => by
  obtain ⟨e, i'⟩ := bytes_open tk hi'
  have hg := b1s_get (List.getElem?_eq_getElem hi)
  refine Ef.sStG (e := e) (cap := cap) (hs1 := hs1) (vs := [.int .u8 (c.toNat : Int)]) (hs := row a cap e 1 (b1s l) :: hs1) hz h hy rfl rfl (by simp [Value.oneCell']) (fun w i => i) hg (Nat.le_refl _) (fun h s => bytes_shut (e := e) ?_) k w i'
  rw [← b1s_set]
  exact s

/-- 'make([]byte, n)'. -/
theorem Ef.mkbytes {i : TypeInfo} (hu : ∀ w, (underlying t).run P w = .ok (.slice e) w) (hi : ∀ w, (typeInfo e).run P w = .ok i w) (hz : ∀ w, (sizeOf e).run P w = .ok 1 w) (hzv : ∀ w, (zeroValue e).run P w = .ok (.int .u8 0) w)
    (h1 : Ev C.n ρ x (.int .i64 n)) (h2 : Ev C.n ρ y (.int .i64 n)) (hb : i.bytes * n ≤ 140737488355328) (hc0 : 0 < n) (hc1 : n ≤ maxLen)
    (k : ∀ b, K (.slice (some ⟨b, 0, none⟩) n n) (bytesA (some ⟨b, 0, none⟩) n (List.replicate n 0) :: hs)) : Ef P C hs ρ ⟨d, .makeSlice t x y, ty, pos, af, g⟩ K := by
  refine Ef.csq (Ef.mkslice hu hi hz hzv rfl h1 h2 (Nat.le_refl _) hb hc0 hc1 fun b => ⟨bytesA (some ⟨b, 0, none⟩) n (List.replicate n 0) :: hs, fun h s => ?_, k b⟩)
  refine bytes_all (l := List.replicate n 0) (e := e) (by simp) hc1 ?_
  have eq : bv (List.replicate n 0) = List.replicate n (Value.int .u8 0) := by unfold bv; exact List.map_replicate
  rw [eq]
  exact s

/-- 'string(b)'. -/
theorem Rd.byStr (hs1 : P.underlying t = some (.slice e)) (he : P.underlying e = some (.int .u8)) (hd : P.underlying t' = some .string) (h : Ev C.n ρ x (.slice a n cap)) (hin : SIn hs a 1 (b1s l)) (hn : l.length = n) :
    Rd P C hs ρ ⟨d, .convert t t' x, ty, pos, af, g⟩ (str l) := by
  subst hn
  exact Rd.ex (fun c h => by cases h) (convert t t' (.slice a l.length cap)) (fun ds => by simp only [execOp, h ds]) fun w hi => by
    cases l with
    | nil =>
      cases a with
      | none =>
        simp [convert, Sem.run_bind, run_underlying hs1, run_underlying he, run_underlying hd, Result.andThen, Conv.bytesToString]
        rfl
      | some a => exact run_convert_bytes_back w t t' e a cap [] hs1 he hd fun j hj => absurd hj (Nat.not_lt_zero _)
    | cons c l =>
      obtain ⟨hf, h2⟩ := hin _ _ w hi
      obtain ⟨b, off, cs, e', fr, rfl, hb, ht⟩ := h2 (by simp)
      refine run_convert_bytes_back w t t' e ⟨b, off, none⟩ cap (c :: l) hs1 he hd fun j hj => ?_
      rw [b1s_flatten, b1s_length, Nat.mul_one] at ht
      have hl : ∀ j v, (bv (c :: l))[j]? = some v → w.cell? ((⟨b, off, none⟩ : Addr).add j) = some v := loads_of hb (by rw [bv_length]; exact ht)
      exact hl j _ (by rw [bv_get, List.getElem?_eq_getElem hj]; rfl)

/-- An array out of the first bytes of a slice. -/
theorem Rd.byArr (ht : ∀ w, (isAgg t).run P w = .ok true w) (hz : ∀ w, (sizeOf t).run P w = .ok n w) (h : Ev C.n ρ x (.pointer a)) (hin : SIn hs a 1 (b1s l)) (hn : l.length = n) (h0 : 0 < n) :
    Rd P C hs ρ ⟨d, .load t x, ty, pos, af, g⟩ (.agg (bv l).toArray) :=
  Rd.ex (fun c h => by cases h) (Instr.loadAt t (.pointer a)) (fun ds => by simp only [execOp, h ds]) fun w hi => by
    obtain ⟨hf, h2⟩ := hin _ _ w hi
    obtain ⟨b, off, cs, e', fr, rfl, hb, ht'⟩ := h2 (by simp; omega)
    rw [b1s_flatten, b1s_length, Nat.mul_one] at ht'
    have hr := run_loadRow (P := P) (off := off) (s := n) (vs := bv l) hb (by rw [← hn]; exact ht') (by rw [bv_length, hn])
    simp only [Instr.loadAt, Instr.sureAddr, loadVar, Sem.run_bind, Sem.run_pure, ht w, hz w, Result.andThen, if_true, hr]

/-! ### against nil; interfaces -/
theorem Rd.iface {dsc : TypeDesc} (h1 : Ev C.n ρ x v) (hu : ∀ w, (underlying t).run P w = .ok dsc w) (hd : ∀ ms, dsc ≠ .interface ms) : Rd P C hs ρ ⟨d, .makeInterface t x, ty, pos, af, g⟩ (.iface t v) :=
  Rd.ex (fun c h => by cases h) (Instr.makeInterface t v) (fun ds => by simp only [execOp, h1 ds]) fun w _ => by
    simp only [Instr.makeInterface, Sem.run_bind, hu w, Result.andThen]
    cases dsc <;> first | rfl | exact absurd rfl (hd _)
end

section
variable {P : Program} {C : Cx} {hs hs1 : List Assn} {ρ : Env} {d : Option Tmp} {ty : TypeId} {pos : String} {af : Array Edge} {g : Option (Nat × Bool)} {K : Value → List Assn → Prop}
  {x y : Operand} {v : Value} {t t' e : TypeId} {s bytes : Nat} {zs u : List Value}

/-- A literal of one element. -/
theorem Ef.slit1 (E : Elt P t e s bytes zs) (h : Ev C.n ρ x v) (hv : v.cells = u.toArray) (hu : u.length = s) (hs' : s ≤ 2 ^ 24) (k : ∀ b, K (.slice (some ⟨b, 0, none⟩) 1 1) (row (some ⟨b, 0, none⟩) 1 e s [u] :: hs)) :
    Ef P C hs ρ ⟨d, .buildSlice t 1 #[(0, x)], ty, pos, af, g⟩ K :=
  Ef.ex (fun c h => by cases h) (Instr.buildSlice t 1 #[(0, v)]) (fun ds => by simp [execOp, h ds]) fun w hi => by
    refine ⟨_, _, _, ?_, (hi.alloc (.cells u.toArray e)).mono fun h st => row_mk (xs := [u]) (cs := u) (lo := 0) (hi := 0) (fun x hx => by simp at hx; rw [hx, hu]) (.inl (Nat.le_refl _)) (by show u.length = 1 * s; omega) (Nat.le_refl _) (by show (1 : Nat) ≤ maxLen; simp only [maxLen]; omega) (by simp [← hu]) st, k _⟩
    refine slit_run E 1 (by omega) (by omega) [(0, v)] u.toArray ?_ w
    obtain ⟨cs0, hcs0⟩ : ∃ cs0 : List Value, (Array.range (1 * s)).map (zs.toArray[· % zs.length]!) = cs0.toArray ∧ cs0.length = s := by
      generalize hA : (Array.range (1 * s)).map (zs.toArray[· % zs.length]!) = A
      refine ⟨A.toList, by simp, ?_⟩
      rw [← hA, Array.length_toList]; simp
    rw [hcs0.1]
    have hc : (decide (u.toArray.size ≠ s) || decide (0 * s + u.toArray.size > cs0.toArray.size)) = false := by
      simp; omega
    simp only [Instr.fill, hv]
    rw [hc]
    have := foldl_splice u cs0 (0 * s) 0 (by omega)
    simp only [Nat.add_zero, Nat.zero_mul] at this
    rw [splice_all (by omega)] at this
    simpa using this

theorem run_app0 (E : Elt P t e s bytes zs) {a a2 : Option Addr} {n cap c : Nat} (hn : n ≤ cap) {w : World} : (Builtin.append_ #[t, t] ty #[.slice a n cap, .slice a2 0 c]).run P w = .ok (.slice a n cap) w := by
  obtain ⟨i, v, hi1, hz, hsz, hby, hzc⟩ := E.info
  cases a <;> cases a2 <;> simp [Builtin.append_, run_underlying E.sl, sizeOf, typeInfo, hi1, Builtin.lenOf, Builtin.firstCells, loadCells, loadCellsFrom, storeCells, hn]

/-- append of a slice that is known. -/
theorem Ef.appS (E : Elt P t e s bytes zs) {a a2 : Option Addr} {cap m n c : Nat} {xs ys : List (List Value)}
    (h1 : Ev C.n ρ x (.slice a n cap)) (h2 : Ev C.n ρ y (.slice a2 m c)) (tk : Take (row a cap e s xs) hs hs1) (hin : SIn hs a2 s ys) (hn : xs.length = n)
    (hm : ys.length = m) (ho : ∀ u ∈ ys.flatten, u.oneCell' = true) (hbig : (n + m) * bytes ≤ 140737488355328) (hbig' : n + m ≤ maxLen)
    (k : ∀ a' cap', K (.slice a' (n + m) cap') (row a' cap' e s (xs ++ ys) :: hs1)) :
    Ef P C hs ρ ⟨d, .call { callee := .builtin .append, args := #[x, y], argTypes := #[t, t] }, ty, pos, af, g⟩ K := fun w hi => by
  subst hn
  obtain ⟨hf, h3⟩ := hin _ _ w hi
  rcases Nat.eq_zero_or_pos m with h0 | h0
  · subst h0
    have hy : ys = [] := List.eq_nil_of_length_eq_zero hm
    subst hy
    have hle : xs.length ≤ cap := by
      rcases row_open tk hi with ⟨_, ⟨rfl, rfl, rfl, _⟩ | ⟨b, cs, lo, hi2, rfl, i', r1, r2, r3, r4, r5⟩⟩
      · exact Nat.le_refl _
      · exact r3
    have hr := run_app0 (ty := ty) (c := c) (a := a) (a2 := a2) (w := w) E hle
    have kk := k a cap
    rw [List.append_nil] at kk
    refine .inl ⟨_, _, w, .inl ?_, Inv.perm tk.perm hi, kk⟩
    rw [Oper.semAt_eq _ _ _ (fun c h => by cases h)]
    show (execOp (act C.n C.ds ρ).eval _).run P w = _
    simp only [execOp, resolve, invoke, builtin]
    simp [h1 C.ds, h2 C.ds, hr, Result.andThen]
  obtain ⟨b, off, cs, e', fr, rfl, hb, ht⟩ := h3 (by omega)
  obtain ⟨a', cap', w', hr, hi'⟩ := run_app (ty := ty) (c := c) E tk hi hf hm (ad := ⟨b, off, none⟩) (fun w hi => by
    obtain ⟨hf, h3⟩ := hin _ _ w hi
    obtain ⟨b, off, cs, e', fr, he, hb, ht⟩ := h3 (by omega)
    cases he
    exact loads_of hb (by rw [hf.length]; exact ht)) ho hbig hbig'
  rw [List.length_append, hm] at hr
  refine .inl ⟨_, _, w', .inl ?_, hi', k a' cap'⟩
  rw [Oper.semAt_eq _ _ _ (fun c h => by cases h)]
  show (execOp (act C.n C.ds ρ).eval _).run P w = _
  simp only [execOp, resolve, invoke, builtin]
  simp [h1 C.ds, h2 C.ds, hr, Result.andThen]

/-- A literal whose building is known. -/
theorem Ef.slitR {parts : List (Nat × Operand)} {vs : List (Nat × Value)} {cs : List Value} {n : Nat} (h : EvP C.n ρ parts vs)
    (hr : ∀ w, (Instr.buildSlice t n vs.toArray).run P w = .ok (.slice (some ⟨w.heap.size, 0, none⟩) n n) (w.alloc (.cells cs.toArray e)))
    (k : ∀ b, K (.slice (some ⟨b, 0, none⟩) n n) (pts b (.cells cs.toArray e) :: hs)) : Ef P C hs ρ ⟨d, .buildSlice t n parts.toArray, ty, pos, af, g⟩ K :=
  Ef.ex (fun c h => by cases h) (Instr.buildSlice t n vs.toArray) (fun ds => by
    have := h.map ds
    simp only [execOp]
    rw [this]) fun w hi => ⟨_, _, _, hr w, hi.alloc _, k _⟩

end

section
variable {P : Program} {C : Cx} {hs hs1 : List Assn} {ρ : Env} {d : Option Tmp} {ty : TypeId} {pos : String} {af : Array Edge} {g : Option (Nat × Bool)} {K : Value → List Assn → Prop}
  {x y z : Operand} {v : Value} {t t' e : TypeId} {l : List UInt8} {k k' : IntKind} {i j : Int}

/-- Parts of strings. -/
theorem Rd.strTo (hu : ∀ w, (underlying t).run P w = .ok .string w) (h : Ev C.n ρ x (str l)) (hy : Ev C.n ρ y (.int k i)) (h0 : 0 ≤ i) (h1 : i ≤ l.length) : Rd P C hs ρ ⟨d, .slice t x none (some y) none, ty, pos, af, g⟩ (str (l.take i.toNat)) :=
  Rd.ex (fun c h => by cases h) (Instr.sliceAt t (str l) none (some (.int k i)) none) (fun ds => by simp only [execOp, h ds, hy ds, Option.map_none, Option.map_some]) fun w _ => by
    simp only [Instr.sliceAt, Instr.slice, str, Sem.run_bind, hu w, Result.andThen, Option.isSome_none, Bool.false_eq_true, if_false, Instr.sliceBounds, Sem.run_pure, Instr.sliceBound, asIntOf, str_size, h0, h1, and_self, if_true, str_extract, List.drop_zero]
/-- A literal of one byte. -/
theorem Ef.byLit1 {zs : List Value} {bytes : Nat} {c : UInt8} (E : Elt P t e 1 bytes zs) (h : Ev C.n ρ x (.int .u8 (c.toNat : Int))) (k : ∀ b, K (.slice (some ⟨b, 0, none⟩) 1 1) (bytesA (some ⟨b, 0, none⟩) 1 [c] :: hs)) :
    Ef P C hs ρ ⟨d, .buildSlice t 1 #[(0, x)], ty, pos, af, g⟩ K :=
  Ef.csq (Ef.slit1 (u := [.int .u8 (c.toNat : Int)]) E h rfl rfl (by decide) fun b => ⟨_, fun _ s => bytes_shut (l := [c]) (e := e) s, k b⟩)
end

/-- A contract put in other words. -/
theorem Fn.cv {P : Program} {f : FuncId} {args : List Value} {pre pre' : List Assn} {X : Type} {R : X → Prop} {rt rt' : X → Value} {post post' : X → List Assn} (F : Fn P f args pre R rt post)
    (hpre : ∀ h, Stars pre' h → Stars pre h) (hrt : ∀ x, R x → rt x = rt' x) (hpost : ∀ x h, R x → Stars (post x) h → Stars (post' x) h) : Fn P f args pre' R rt' post' :=
  ⟨F.ent, fun w h s b => (F.calls w h (hpre h s) b).mono fun e w' ⟨x, h', r, he, s', b', f'⟩ => ⟨x, h', r, by rw [he, hrt x r], hpost x h' r s', b', f'⟩⟩

end Go.Proofs.YtbhladkbnleeoaaGreat

namespace Go.Proofs.YtbhladkbnleeoaaGreat

/-- In this state the slice at a holds xs, which nobody owns: it may be had as often as is wished. -/
@[irreducible] def rowR (a : Option Addr) (s : Nat) (xs : List (List Value)) : Assn := fun h =>
  Flat s xs ∧ (xs = [] ∨ ∃ (b off : Nat) (cs : List Value) (e : TypeId) (fr : Nat × Nat), a = some ⟨b, off, none⟩ ∧ h b = some (false, .cells cs.toArray e fr) ∧ (cs.drop off).take (xs.length * s) = xs.flatten)

theorem SIn.rowR {hs hs1 : List Assn} {a s xs} (t : Take (rowR a s xs) hs hs1) : SIn hs a s xs := by
  rintro h0 w0 w i
  obtain ⟨h, ⟨h1, h2, p, q, c, rfl⟩, b, f⟩ := Inv.perm t.perm i
  unfold Proofs.YtbhladkbnleeoaaGreat.rowR at p
  obtain ⟨hf, rfl | ⟨bk, off, cs, e, fr, rfl, hb, hx⟩⟩ := p
  · exact ⟨hf, fun h => absurd h (Nat.lt_irrefl 0)⟩
  · exact ⟨hf, fun _ => ⟨bk, off, cs, e, fr, rfl, b.left bk false _ hb, hx⟩⟩

theorem rowR_pick {A : Assn} {a s xs} (hA : ∀ h, A h → rowR a s xs h) {l : List Assn} {h : Frag} (st : Stars (A :: l) h) : Stars (rowR a s xs :: A :: l) h := by
  obtain ⟨h1, h2, p0, q, c, rfl⟩ := st
  have p := hA h1 p0
  unfold rowR at p
  obtain ⟨hf, rfl | ⟨bk, off, cs, e, fr, rfl, hb, hx⟩⟩ := p
  · refine ⟨fun _ => none, jn h1 h2, by unfold rowR; exact ⟨hf, .inl rfl⟩, ⟨h1, h2, p0, q, c, rfl⟩, fun _ => .inl rfl, by funext b; rfl⟩
  · have hj : jn h1 h2 bk = some (false, .cells cs.toArray e fr) := by unfold jn; rw [hb]; rfl
    refine ⟨fun x => if x = bk then some (false, .cells cs.toArray e fr) else none, jn h1 h2, ?_, ⟨h1, h2, p0, q, c, rfl⟩, ?_, ?_⟩
    · unfold rowR
      exact ⟨hf, .inr ⟨bk, off, cs, e, fr, rfl, if_pos rfl, hx⟩⟩
    · intro x
      by_cases hxb : x = bk
      · subst hxb
        exact .inr (.inr ⟨by rw [hj]; exact if_pos rfl, _, if_pos rfl⟩)
      · exact .inl (if_neg hxb)
    · funext x
      by_cases hxb : x = bk
      · subst hxb
        rw [hj]
        show _ = jn _ _ _
        simp [jn]
      · show jn h1 h2 x = (if x = bk then _ else none).or (jn h1 h2 x)
        rw [if_neg hxb]
        rfl

theorem rowR_dup {a s xs} {l : List Assn} {h : Frag} (st : Stars (rowR a s xs :: l) h) : Stars (rowR a s xs :: rowR a s xs :: l) h := rowR_pick (fun _ h => h) st

theorem rowR_nil (a : Option Addr) (s : Nat) {l : List Assn} {h : Frag} (t : Stars l h) : Stars (rowR a s [] :: l) h :=
  ⟨fun _ => none, h, by unfold rowR; exact ⟨(by intro x hx; cases hx), .inl rfl⟩, t, fun _ => .inl rfl, by funext b; rfl⟩

/-- What was owned is given up. -/
theorem Inv.demote {h0 : Frag} {w0 w : World} {a cap e s xs} {hs hs1 : List Assn} (t : Take (row a cap e s xs) hs hs1) (i : Inv h0 w0 hs w) : Inv h0 w0 (rowR a s xs :: hs1) w := by
  obtain ⟨h, ⟨h1, h2, p, q, c, rfl⟩, b, f⟩ := Inv.perm t.perm i
  unfold row at p
  obtain ⟨hf, ⟨rfl, rfl, rfl⟩ | ⟨bk, cs, lo, hi, rfl, hb, r1, r2, r3, r4, r5⟩⟩ := p
  · exact ⟨_, ⟨h1, h2, by unfold rowR; exact ⟨hf, .inl rfl⟩, q, c, rfl⟩, b, f⟩
  · have h2b : h2 bk = none := by
      rcases c bk with x | x | ⟨x, o, y⟩
      · rw [hb] at x; cases x
      · exact x
      · rw [hb] at y; cases y
    have hjx : ∀ x, x ≠ bk → jn (fun x => if x = bk then some (false, Obj.cells cs.toArray e (lo, hi)) else h1 x) h2 x = jn h1 h2 x := by
      intro x hx
      unfold jn
      simp [hx]
    have hjb : jn (fun x => if x = bk then some (false, Obj.cells cs.toArray e (lo, hi)) else h1 x) h2 bk = some (false, Obj.cells cs.toArray e (lo, hi)) := by
      unfold jn
      simp
    have hjo : jn h1 h2 bk = some (true, Obj.cells cs.toArray e (lo, hi)) := by
      unfold jn
      rw [hb]
      rfl
    refine ⟨jn (fun x => if x = bk then some (false, .cells cs.toArray e (lo, hi)) else h1 x) h2, ⟨_, h2, ?_, q, ?_, rfl⟩, ?_, ?_⟩
    · unfold rowR
      exact ⟨hf, .inr ⟨bk, 0, cs, e, (lo, hi), rfl, if_pos rfl, by rw [List.drop_zero]; exact r5⟩⟩
    · intro x
      by_cases hx : x = bk
      · subst hx; exact .inr (.inl h2b)
      · simp only [hx, if_false]
        exact c x
    · intro x fl o hx
      by_cases hxb : x = bk
      · subst hxb
        rw [hjb] at hx
        cases hx
        exact b x true _ hjo
      · rw [hjx x hxb] at hx
        exact b x fl o hx
    · refine ⟨f.os, f.tape, f.output, f.size, f.keep, ?_, ?_⟩
      · rintro x ⟨o, hx⟩
        by_cases hxb : x = bk
        · subst hxb
          rw [hjb] at hx
          cases hx
        · rw [hjx x hxb] at hx
          exact f.own x ⟨o, hx⟩
      · intro x hx
        by_cases hxb : x = bk
        · subst hxb
          exact f.dom x (by rw [hjo]; simp)
        · rw [hjx x hxb] at hx
          exact f.dom x hx

section
variable {P : Program} {C : Cx} {Q : Exit → Act → World → Prop} {ρ : Env} {hs hs1 : List Assn} {a : Option Addr} {cap e s : Nat} {xs : List (List Value)}
theorem J.demote {c : Code} (t : Take (row a cap e s xs) hs hs1) (k : J P C c Q ρ (rowR a s xs :: hs1)) : J P C c Q ρ hs := fun w i => k w (i.demote t)
theorem At.demote {ex : Exit} (t : Take (row a cap e s xs) hs hs1) (k : At C Q ex ρ (rowR a s xs :: hs1)) : At C Q ex ρ hs := fun w i => k w (i.demote t)
end

/-! ### several results -/
inductive RVs (P : Program) (C : Cx) (ρ : Env) (hs : List Assn) : List ResultVar → List Value → Prop
  | nil : RVs P C ρ hs [] []
  | tmp {t v rs vs} : Ev C.n ρ (.tmp t) v → RVs P C ρ hs rs vs → RVs P C ρ hs (.tmp t :: rs) (v :: vs)
  | agg {p t b s cs e fr rs vs} : (∀ w, (isAgg t).run P w = .ok true w) → (∀ w, (sizeOf t).run P w = .ok s w) → Ev C.n ρ (.tmp p) (.pointer (some ⟨b, 0, none⟩)) → Blk b (.cells (List.toArray cs) e fr) hs → cs.length = s → RVs P C ρ hs rs vs →
      RVs P C ρ hs (.cell p t :: rs) (.agg cs.toArray :: vs)
  | one {p t b v e fr rs vs} : (∀ w, (isAgg t).run P w = .ok false w) → Ev C.n ρ (.tmp p) (.pointer (some ⟨b, 0, none⟩)) → Blk b (.cells [v].toArray e fr) hs → RVs P C ρ hs rs vs →
      RVs P C ρ hs (.cell p t :: rs) (v :: vs)

theorem RVs.run {P : Program} {C : Cx} {ρ : Env} {hs : List Assn} {rs : List ResultVar} {vs : List Value} (h : RVs P C ρ hs rs vs) {w : World} (hi : C.inv hs w) {f : ResultVar → Sem Value} (hf1 : ∀ t, f (.tmp t) = pure ((C.act ρ).tmps.getD t undef)) (hf2 : ∀ a t, f (.cell a t) = (do loadVar t (← asAddr ((C.act ρ).tmps.getD a undef)))) :
    (rs.mapM f).run P w = .ok vs w := by
  induction h with
  | nil => rfl
  | @tmp t v rs vs hv _ ih =>
    have h1 := getD_act (ds := C.ds) hv
    have h1' : (C.act ρ).tmps.getD t undef = v := h1
    rw [List.mapM_cons, hf1]
    simp only [Sem.run_bind, Sem.run_pure, Result.andThen, ih, h1']
  | @agg p t b s cs e fr rs vs ht hz hp hb hl _ ih =>
    have h1 : (C.act ρ).tmps.getD p undef = _ := getD_act (ds := C.ds) hp
    have h2 : (loadVar t ⟨b, 0, none⟩).run P w = .ok (.agg cs.toArray) w := by
      simp only [loadVar, Sem.run_bind, Sem.run_pure, ht w, hz w, Result.andThen, if_true, run_loadRow (off := 0) (vs := cs) (hb.inv hi) (by rw [List.drop_zero, ← hl, List.take_length]) hl]
    rw [List.mapM_cons, hf2]
    have ha : asAddr (.pointer (some ⟨b, 0, none⟩)) = pure ⟨b, 0, none⟩ := rfl
    simp only [Sem.run_bind, Sem.run_pure, Result.andThen, h1, ha, h2, ih]
  | @one p t b v e fr rs vs ht hp hb _ ih =>
    have h1 : (C.act ρ).tmps.getD p undef = _ := getD_act (ds := C.ds) hp
    have hc : w.cell? ⟨b, 0, none⟩ = some v := (cell_of (hb.inv hi)).trans rfl
    have h2 : (loadVar t ⟨b, 0, none⟩).run P w = .ok v w := by
      simp only [loadVar, Sem.run_bind, ht w, Result.andThen]
      simp [load, Sem.run, hc]
    rw [List.mapM_cons, hf2]
    have ha : asAddr (.pointer (some ⟨b, 0, none⟩)) = pure ⟨b, 0, none⟩ := rfl
    simp only [Sem.run_bind, Sem.run_pure, Result.andThen, h1, ha, h2, ih]

theorem ResV.many {P : Program} {C : Cx} {fn : Func} {ρ : Env} {hs : List Assn} {rs : List ResultVar} {vs : List Value} (h : fn.results = rs.toArray) (hv : RVs P C ρ hs rs vs) (hn : vs.length ≠ 1) : ResV P C fn ρ hs (.tuple vs.toArray) := fun w hi => by
  unfold results
  rw [h, List.mapM_toArray]
  have hm : ∀ (m : Sem (List Value)), m.run P w = .ok vs w → (List.toArray <$> m).run P w = .ok vs.toArray w := fun m e => by
    have : (List.toArray <$> m) = (m >>= fun a => pure a.toArray) := rfl
    rw [this, Sem.run_bind, e]
    rfl
  rw [Sem.run_bind, hm _ (hv.run hi (fun _ => rfl) (fun _ _ => rfl))]
  simp [Result.andThen, hn]

/-! ### bits; single bytes of strings -/
section
variable {P : Program} {C : Cx} {hs hs1 : List Assn} {ρ : Env} {d : Option Tmp} {ty : TypeId} {pos : String} {af : Array Edge} {g : Option (Nat × Bool)} {K : Value → List Assn → Prop}
  {x y z : Operand} {v : Value} {t t' e : TypeId} {l : List UInt8} {k : IntKind} {i : Int} {b c : UInt8}

theorem wrap_u8 (n : Nat) : IntKind.u8.wrap (n : Int) = ((UInt8.ofNat n).toNat : Int) := by
  have : (UInt8.ofNat n).toNat = n % 256 := UInt8.toNat_ofNat'
  rw [this]
  simp only [IntKind.wrap, IntKind.bits, IntKind.signed]
  simp
theorem Rd.conv8 {n : Nat} (h : Ev C.n ρ x (.int k (n : Int))) (hs' : ∀ w, ∃ dsc, (underlying t).run P w = .ok dsc w) (hu : ∀ w, (underlying t').run P w = .ok (.int .u8) w) :
    Rd P C hs ρ ⟨d, .convert t t' x, ty, pos, af, g⟩ (.int .u8 ((UInt8.ofNat n).toNat : Int)) := by
  have := Rd.convW (P := P) (C := C) (hs := hs) (d := d) (ty := ty) (pos := pos) (af := af) (g := g) h hs' hu
  rwa [wrap_u8] at this
/-- 's[:i]' of a slice. -/
theorem Rd.slTo {a : Option Addr} {n cap s : Nat} (hu : ∀ w, (underlying t).run P w = .ok (.slice e) w) (hz : ∀ w, (sizeOf e).run P w = .ok s w) (h : Ev C.n ρ x (.slice a n cap)) (hy : Ev C.n ρ y (.int k i)) (h0 : 0 ≤ i) (h1 : i ≤ cap) :
    Rd P C hs ρ ⟨d, .slice t x none (some y) none, ty, pos, af, g⟩ (.slice a i.toNat cap) :=
  Rd.ex (fun c h => by cases h) (Instr.sliceAt t (.slice a n cap) none (some (.int k i)) none) (fun ds => by simp only [execOp, h ds, hy ds, Option.map_none, Option.map_some]) fun w _ => by
    have ha : (a.map fun ad => ad.add (0 * s)) = a := by
      rw [Nat.zero_mul]
      cases a with
      | none => rfl
      | some ad => cases ad; simp [Addr.add]
    simp only [Instr.sliceAt, Instr.slice, Sem.run_bind, hu w, Result.andThen, Instr.sliceBounds, Sem.run_pure, Instr.sliceBound, asIntOf, h0, h1, and_self, if_true, hz w, ha, Nat.sub_zero, ite_self]
end

/-- One byte of a string is changed. -/
def flipB (s : List UInt8) (j : Nat) (c : UInt8) : List UInt8 := s.set j (s.getD j 0 ^^^ c)
@[simp] theorem flipB_length (s : List UInt8) (j : Nat) (c : UInt8) : (flipB s j c).length = s.length := by simp [flipB]
/-- Where elements are found. -/
inductive Src : Option Addr → Nat → List (List Value) → List Assn → Prop
  | row {a cap e s xs l} : Src a s xs (row a cap e s xs :: l)
  | rd {a s xs l} : Src a s xs (rowR a s xs :: l)
  | bts {a cap c l} : Src a 1 (b1s c) (bytesA a cap c :: l)
  | there {a s xs A l} : Src a s xs l → Src a s xs (A :: l)
theorem SIn.there {hs : List Assn} {A : Assn} {a : Option Addr} {s : Nat} {xs : List (List Value)} (h : SIn hs a s xs) : SIn (A :: hs) a s xs := fun h0 w0 w i => h h0 w0 w (i.mono fun _ st => st.tail)
theorem Src.i {a s xs hs} (h : Src a s xs hs) : SIn hs a s xs := by
  induction h with
  | row => exact SIn.row .here
  | rd => exact SIn.rowR .here
  | bts => exact SIn.bytes .here
  | there _ ih => exact ih.there
end Go.Proofs.YtbhladkbnleeoaaGreat

namespace Go.Proofs.YtbhladkbnleeoaaGreat

end Go.Proofs.YtbhladkbnleeoaaGreat

namespace Go.Proofs.YtbhladkbnleeoaaGreat

section
variable {P : Program} {C : Cx} {hs hs1 : List Assn} {ρ : Env} {d : Option Tmp} {ty : TypeId} {pos : String} {af : Array Edge} {g : Option (Nat × Bool)} {K : Value → List Assn → Prop}
  {x y z : Operand} {v u : Value} {t kt e : TypeId} {q : IntKind} {m r clock : Nat} {mp : List (Int × Value)} {k : Int} {es : Array MapEntry} {seen : Array Nat}

end

/-! ### structs compared -/
def EqAt (P : Program) (k : Nat) (t : TypeId) (x y : Value) (b : Bool) : Prop := ∀ w, (Op.equalIn k t x y).run P w = .ok b w
theorem EqAt.strs {P : Program} {k : Nat} {t : TypeId} (hu : ∀ w, (underlying t).run P w = .ok .string w) (l m : List UInt8) : EqAt P (k + 1) t (str l) (str m) (decide (l = m)) := fun w => by
  unfold Op.equalIn str
  rw [Sem.run_bind, hu w]
  have e : ((⟨l.toArray⟩ : ByteArray) == ⟨m.toArray⟩) = (l.toArray == m.toArray) := rfl
  show Result.ok ((⟨l.toArray⟩ : ByteArray) == ⟨m.toArray⟩) w = _
  rw [e]
  congr 1
  by_cases h : l = m
  · subst h; simp
  · simp [h]
theorem EqAt.s2 {P : Program} {k : Nat} {t : TypeId} {f1 f2 : Field} {xs ys : Array Value} {x1 x2 y1 y2 : Value} {b1 b2 : Bool} (hu : ∀ w, (underlying t).run P w = .ok (.struct #[f1, f2]) w) (hst : P.stoodInHeld t = false) (n1 : f1.name ≠ "_") (n2 : f2.name ≠ "_")
    (p1 : ∀ w, (part f1.type xs f1.offset).run P w = .ok x1 w) (p2 : ∀ w, (part f2.type xs f2.offset).run P w = .ok x2 w) (q1 : ∀ w, (part f1.type ys f1.offset).run P w = .ok y1 w) (q2 : ∀ w, (part f2.type ys f2.offset).run P w = .ok y2 w)
    (e1 : EqAt P k f1.type x1 y1 b1) (e2 : EqAt P k f2.type x2 y2 b2) : EqAt P (k + 1) t (.agg xs) (.agg ys) (b1 && b2) := fun w => by
  have hp : ∀ w, (program : Sem Program).run P w = .ok P w := fun _ => rfl
  unfold Op.equalIn
  rw [Sem.run_bind, hu w]
  simp only [Result.andThen, Sem.run_bind, hp, hst, Bool.false_eq_true, if_false]
  rw [← Array.forIn_toList]
  simp only [List.forIn_cons, List.forIn_nil, Sem.run_bind, p1, q1, e1 w, n1, n2, Result.andThen, ne_eq, not_false_eq_true, if_true]
  cases b1 <;> cases b2 <;> simp [Sem.run_bind, Sem.run_pure, Result.andThen, p2, q2, e2 w]
section
variable {P : Program} {C : Cx} {hs hs1 : List Assn} {ρ : Env} {d : Option Tmp} {ty : TypeId} {pos : String} {af : Array Edge} {g : Option (Nat × Bool)}
  {x y z : Operand} {t t' : TypeId} {a b : List Value} {r : Bool}
end
end Go.Proofs.YtbhladkbnleeoaaGreat

namespace Go.Proofs.YtbhladkbnleeoaaGreat

/-! ### strings in order -/
def slt (a b : List UInt8) : Bool := Op.bytesLess a b

section
variable {P : Program} {C : Cx} {hs hs1 : List Assn} {ρ : Env} {d : Option Tmp} {ty : TypeId} {pos : String} {af : Array Edge} {g : Option (Nat × Bool)} {K : Value → List Assn → Prop}
  {x y z m' : Operand} {v : Value} {t t' e : TypeId} {k k' : IntKind}

theorem Rd.str_lss {a b : List UInt8} (h1 : Ev C.n ρ x (str a)) (h2 : Ev C.n ρ y (str b)) : Rd P C hs ρ ⟨d, .binOp .lss t x y t', ty, pos, af, g⟩ (.bool (slt a b)) :=
  Rd.str2 h1 h2 fun w => by
    have e1 : ∀ l : List UInt8, (⟨l.toArray⟩ : ByteArray).toList = l := fun l => by simp
    simp only [Op.stringOp, e1]; rfl
theorem Rd.str_geq {a b : List UInt8} (h1 : Ev C.n ρ x (str a)) (h2 : Ev C.n ρ y (str b)) : Rd P C hs ρ ⟨d, .binOp .geq t x y t', ty, pos, af, g⟩ (.bool (!slt a b)) :=
  Rd.str2 h1 h2 fun w => by
    have e1 : ∀ l : List UInt8, (⟨l.toArray⟩ : ByteArray).toList = l := fun l => by simp
    simp only [Op.stringOp, e1]; rfl
theorem slt_gt (a b : List UInt8) : (!(slt a b || a == b)) = slt b a := by
  induction a generalizing b with
  | nil => cases b <;> rfl
  | cons x a ih =>
    cases b with
    | nil => rfl
    | cons y b =>
      have e1 : slt (x :: a) (y :: b) = (decide (x < y) || (x == y && slt a b)) := rfl
      have e2 : slt (y :: b) (x :: a) = (decide (y < x) || (y == x && slt b a)) := rfl
      have e3 : ((x :: a) == (y :: b)) = (x == y && a == b) := rfl
      rw [e1, e2, e3, ← ih b]
      by_cases h : x = y
      · subst h
        simp [UInt8.lt_irrefl]
      · have h2 : ¬ y = x := fun e => h e.symm
        have h3 : (x == y) = false := by simpa using h
        have h4 : (y == x) = false := by simpa using h2
        rw [h3, h4]
        simp only [Bool.false_and, Bool.or_false]
        by_cases hl : x < y
        · have : ¬ y < x := UInt8.not_lt.2 (UInt8.le_of_lt hl)
          simp [hl, this]
        · have : y < x := by
            rcases UInt8.lt_or_lt_of_ne h with h | h
            · exact absurd h hl
            · exact h
          simp [hl, this]
theorem Rd.str_gtr {a b : List UInt8} (h1 : Ev C.n ρ x (str a)) (h2 : Ev C.n ρ y (str b)) : Rd P C hs ρ ⟨d, .binOp .gtr t x y t', ty, pos, af, g⟩ (.bool (slt b a)) :=
  Rd.str2 h1 h2 fun w => by
    have e1 : ∀ l : List UInt8, (⟨l.toArray⟩ : ByteArray).toList = l := fun l => by simp
    rw [← slt_gt]
    simp only [Op.stringOp, e1]; rfl

/-! ### numbers of 32 bits -/
theorem ofInt_u32 (b : UInt32) : BitVec.ofInt IntKind.u32.bits (b.toNat : Int) = b.toBitVec := by
  apply BitVec.eq_of_toNat_eq
  rw [BitVec.toNat_ofInt]
  have := b.toNat_lt
  have h8 : ((2 ^ IntKind.u32.bits : Nat) : Int) = 4294967296 := by decide
  rw [h8]
  show ((b.toNat : Int) % 4294967296).toNat = b.toNat
  omega
theorem back_u32 (b : UInt32) : IntKind.u32.wrap ((b.toBitVec.toNat : Nat) : Int) = (b.toNat : Int) := by
  have := b.toNat_lt
  have e : b.toBitVec.toNat = b.toNat := rfl
  rw [e]
  exact w32 (by omega) (by omega)
theorem Rd.xor32 {b c : UInt32} (h1 : Ev C.n ρ x (.int .u32 (b.toNat : Int))) (h2 : Ev C.n ρ y (.int .u32 (c.toNat : Int))) : Rd P C hs ρ ⟨d, .binOp .xor t x y t', ty, pos, af, g⟩ (.int .u32 ((b ^^^ c).toNat : Int)) :=
  Rd.bin h1 h2 fun w => by
    show (Op.intBits .xor .u32 (b.toNat : Int) (c.toNat : Int)).run P w = _
    simp only [Op.intBits, ofInt_u32]
    show Result.ok (Value.int .u32 (IntKind.u32.wrap (((b ^^^ c).toBitVec.toNat : Nat) : Int))) w = _
    rw [back_u32]
theorem Rd.and32 {b c : UInt32} (h1 : Ev C.n ρ x (.int .u32 (b.toNat : Int))) (h2 : Ev C.n ρ y (.int .u32 (c.toNat : Int))) : Rd P C hs ρ ⟨d, .binOp .and t x y t', ty, pos, af, g⟩ (.int .u32 ((b &&& c).toNat : Int)) :=
  Rd.bin h1 h2 fun w => by
    show (Op.intBits .and .u32 (b.toNat : Int) (c.toNat : Int)).run P w = _
    simp only [Op.intBits, ofInt_u32]
    show Result.ok (Value.int .u32 (IntKind.u32.wrap (((b &&& c).toBitVec.toNat : Nat) : Int))) w = _
    rw [back_u32]
theorem Rd.not32 {b : UInt32} (h1 : Ev C.n ρ x (.int .u32 (b.toNat : Int))) : Rd P C hs ρ ⟨d, .unOp .xor t x, ty, pos, af, g⟩ (.int .u32 ((~~~ b).toNat : Int)) :=
  Rd.ex (fun c h => by cases h) (Op.unary .xor (.int .u32 (b.toNat : Int))) (fun ds => by simp only [execOp, h1 ds]) fun w _ => by
    have e : (4294967295 : Int) = (((0xFFFFFFFF : UInt32).toNat : Nat) : Int) := rfl
    show (Op.intBits .xor .u32 (4294967295 : Int) (b.toNat : Int)).run P w = _
    rw [e]
    simp only [Op.intBits, ofInt_u32]
    have e2 : (0xFFFFFFFF : UInt32) ^^^ b = ~~~ b := by
      apply UInt32.toBitVec_inj.1
      rw [UInt32.toBitVec_xor, UInt32.toBitVec_not]
      exact BitVec.allOnes_xor
    show Result.ok (Value.int .u32 (IntKind.u32.wrap ((((0xFFFFFFFF : UInt32) ^^^ b).toBitVec.toNat : Nat) : Int))) w = _
    rw [back_u32, e2]
/-- Shifts of numbers that are not negative. -/
theorem Rd.shrN {a n : Nat} (h1 : Ev C.n ρ x (.int k (a : Int))) (h2 : Ev C.n ρ y (.int k' (n : Int))) (hn : n ≤ k.bits) : Rd P C hs ρ ⟨d, .binOp .shr t x y t', ty, pos, af, g⟩ (.int k ((a / 2 ^ n : Nat) : Int)) :=
  Rd.bin h1 h2 fun w => by
    show (Op.shift .shr k (a : Int) k' (n : Int)).run P w = _
    unfold Op.shift
    rw [if_neg (by omega)]
    have : min ((n : Int).toNat) k.bits = n := by rw [Int.toNat_natCast]; omega
    simp only [this]
    show Result.ok (Value.int k ((a : Int).fdiv (2 ^ n))) w = _
    rw [Int.fdiv_eq_ediv_of_nonneg _ (by exact Int.le_of_lt (Int.pow_pos (by decide)))]
    norm_cast
theorem Rd.shl64 {a n : Nat} (h1 : Ev C.n ρ x (.int .i64 (a : Int))) (h2 : Ev C.n ρ y (.int k' (n : Int))) (hn : n ≤ 64) (hb : a * 2 ^ n ≤ 9223372036854775807) : Rd P C hs ρ ⟨d, .binOp .shl t x y t', ty, pos, af, g⟩ (.int .i64 ((a * 2 ^ n : Nat) : Int)) :=
  Rd.bin h1 h2 fun w => by
    show (Op.shift .shl .i64 (a : Int) k' (n : Int)).run P w = _
    unfold Op.shift
    rw [if_neg (by omega)]
    have : min ((n : Int).toNat) IntKind.i64.bits = n := by rw [Int.toNat_natCast]; show min n 64 = n; omega
    simp only [this]
    show Result.ok (Value.int .i64 (IntKind.i64.wrap ((a : Int) * 2 ^ n))) w = _
    have e : (a : Int) * 2 ^ n = ((a * 2 ^ n : Nat) : Int) := by norm_cast
    rw [e, w64 (by omega) (by omega)]
theorem ofInt_i64 {a : Nat} (h : a < 9223372036854775808) : (BitVec.ofInt IntKind.i64.bits (a : Int)).toNat = a := by
  rw [BitVec.toNat_ofInt]
  have h8 : ((2 ^ IntKind.i64.bits : Nat) : Int) = 18446744073709551616 := by decide
  rw [h8]
  omega
/-- Bits put together: a byte below a number that was shifted by it. -/
theorem Rd.orB {a c : Nat} (h1 : Ev C.n ρ x (.int .i64 ((a * 256 : Nat) : Int))) (h2 : Ev C.n ρ y (.int .i64 (c : Int))) (hc : c < 256) (ha : a * 256 + c ≤ 9223372036854775807) : Rd P C hs ρ ⟨d, .binOp .or t x y t', ty, pos, af, g⟩ (.int .i64 ((a * 256 + c : Nat) : Int)) :=
  Rd.bin h1 h2 fun w => by
    show (Op.intBits .or .i64 ((a * 256 : Nat) : Int) (c : Int)).run P w = _
    simp only [Op.intBits]
    have e : ((BitVec.ofInt IntKind.i64.bits ((a * 256 : Nat) : Int)) ||| (BitVec.ofInt IntKind.i64.bits (c : Int))).toNat = a * 256 + c := by
      rw [BitVec.toNat_or, ofInt_i64 (by omega), ofInt_i64 (by omega)]
      have := Nat.two_pow_add_eq_or_of_lt (i := 8) (b := c) (by omega) a
      rw [show a * 256 = 2 ^ 8 * a by omega, ← this]
    show Result.ok (Value.int .i64 (IntKind.i64.wrap (((BitVec.ofInt IntKind.i64.bits ((a * 256 : Nat) : Int)) ||| (BitVec.ofInt IntKind.i64.bits (c : Int))).toNat : Int))) w = _
    rw [e, w64 (by omega) (by omega)]

/-! ### slices of slices -/
/-- Where a part of a slice lies: from the element l on, m being the capacity's end. -/
def subA (a : Option Addr) (s l m : Nat) : Option Addr := if m = l then a else a.map fun ad => ad.add (l * s)
theorem subA_zero (a : Option Addr) (s m : Nat) : subA a s 0 m = a := by
  unfold subA
  split
  · rfl
  · rw [Nat.zero_mul]
    cases a with
    | none => rfl
    | some ad => cases ad; simp [Addr.add]
theorem Rd.slFrom {a : Option Addr} {n cap s i : Nat} (hu : ∀ w, (underlying t).run P w = .ok (.slice e) w) (hz : ∀ w, (sizeOf e).run P w = .ok s w) (h : Ev C.n ρ x (.slice a n cap)) (hy : Ev C.n ρ y (.int k (i : Int))) (h1 : i ≤ n) :
    Rd P C hs ρ ⟨d, .slice t x (some y) none none, ty, pos, af, g⟩ (.slice (subA a s i cap) (n - i) (cap - i)) :=
  Rd.ex (fun c h => by cases h) (Instr.sliceAt t (.slice a n cap) (some (.int k (i : Int))) none none) (fun ds => by simp only [execOp, h ds, hy ds, Option.map_none, Option.map_some]) fun w _ => by
    have h2 : (i : Int) ≤ (n : Int) := by omega
    simp [Instr.sliceAt, Instr.slice, Sem.run_bind, hu w, Result.andThen, Instr.sliceBounds, Instr.sliceBound, asIntOf, h1, hz w, subA]
theorem Rd.slMid {a : Option Addr} {n cap s i j : Nat} (hu : ∀ w, (underlying t).run P w = .ok (.slice e) w) (hz : ∀ w, (sizeOf e).run P w = .ok s w) (h : Ev C.n ρ x (.slice a n cap)) (hy : Ev C.n ρ y (.int k (i : Int))) (hj : Ev C.n ρ z (.int k' (j : Int))) (h1 : i ≤ j) (h2 : j ≤ cap) :
    Rd P C hs ρ ⟨d, .slice t x (some y) (some z) none, ty, pos, af, g⟩ (.slice (subA a s i cap) (j - i) (cap - i)) :=
  Rd.ex (fun c h => by cases h) (Instr.sliceAt t (.slice a n cap) (some (.int k (i : Int))) (some (.int k' (j : Int))) none) (fun ds => by simp only [execOp, h ds, hy ds, hj ds, Option.map_none, Option.map_some]) fun w _ => by
    have h3 : (i : Int) ≤ (j : Int) := by omega
    have h4 : (j : Int) ≤ (cap : Int) := by omega
    simp [Instr.sliceAt, Instr.slice, Sem.run_bind, hu w, Result.andThen, Instr.sliceBounds, Instr.sliceBound, asIntOf, h1, h2, hz w, subA]
theorem Rd.slMax {a : Option Addr} {n cap s i j : Nat} (hu : ∀ w, (underlying t).run P w = .ok (.slice e) w) (hz : ∀ w, (sizeOf e).run P w = .ok s w) (h : Ev C.n ρ x (.slice a n cap)) (hy : Ev C.n ρ y (.int k (i : Int))) (hj : Ev C.n ρ z (.int k' (j : Int))) (h1 : i ≤ j) (h2 : j ≤ cap) :
    Rd P C hs ρ ⟨d, .slice t x none (some y) (some z), ty, pos, af, g⟩ (.slice a i j) :=
  Rd.ex (fun c h => by cases h) (Instr.sliceAt t (.slice a n cap) none (some (.int k (i : Int))) (some (.int k' (j : Int)))) (fun ds => by simp only [execOp, h ds, hy ds, hj ds, Option.map_none, Option.map_some]) fun w _ => by
    have h3 : (i : Int) ≤ (j : Int) := by omega
    have h4 : (j : Int) ≤ (cap : Int) := by omega
    have e := subA_zero a s j
    unfold subA at e
    simp [Instr.sliceAt, Instr.slice, Sem.run_bind, hu w, Result.andThen, Instr.sliceBounds, Instr.sliceBound, asIntOf, h1, h2, hz w]
    simpa using e
end

theorem flat_drop {s : Nat} {xs : List (List Value)} (h : Flat s xs) (l : Nat) : (xs.drop l).flatten = xs.flatten.drop (l * s) := by
  have h1 : xs.flatten = (xs.take l).flatten ++ (xs.drop l).flatten := by rw [← List.flatten_append, List.take_append_drop]
  have h2 : Flat s (xs.take l) := fun x hx => h x (List.mem_of_mem_take hx)
  have h3 : (xs.take l).flatten.length = (xs.take l).length * s := h2.length
  by_cases hl : l ≤ xs.length
  · rw [h1, List.drop_left' (by rw [h3, List.length_take, Nat.min_eq_left hl])]
  · have e1 : xs.drop l = [] := List.drop_of_length_le (by omega)
    rw [e1, List.drop_of_length_le]
    · rfl
    · rw [h.length]
      exact Nat.mul_le_mul_right _ (by omega)
theorem SIn.sub {hs : List Assn} {a : Option Addr} {s : Nat} {xs : List (List Value)} (h : SIn hs a s xs) (l k m : Nat) (hm : xs.length ≤ m) : SIn hs (subA a s l m) s ((xs.drop l).take k) := by
  intro h0 w0 w i
  obtain ⟨hf, hx⟩ := h h0 w0 w i
  refine ⟨fun x hx => hf x (List.mem_of_mem_drop (List.mem_of_mem_take hx)), fun hpos => ?_⟩
  have hl : l < xs.length := by
    have : 0 < ((xs.drop l).take k).length := hpos
    rw [List.length_take, List.length_drop] at this
    omega
  obtain ⟨b, off, cs, e, fr, rfl, hb, ht⟩ := hx (by omega)
  refine ⟨b, off + l * s, cs, e, fr, ?_, hb, ?_⟩
  · unfold subA
    rw [if_neg (by omega)]
    simp [Addr.add]
  · have hf2 : Flat s (xs.drop l) := fun x hx => hf x (List.mem_of_mem_drop hx)
    have e1 : ((xs.drop l).take k).flatten = (xs.drop l).flatten.take (((xs.drop l).take k).length * s) := by
      have h1 : (xs.drop l).flatten = ((xs.drop l).take k).flatten ++ ((xs.drop l).drop k).flatten := by rw [← List.flatten_append, List.take_append_drop]
      have h3 : Flat s ((xs.drop l).take k) := fun x hx => hf2 x (List.mem_of_mem_take hx)
      rw [h1, List.take_left' h3.length]
    rw [e1, flat_drop hf, ← ht, List.drop_take, List.drop_drop, List.take_take]
    congr 1
    rw [List.length_take, List.length_drop, ← Nat.sub_mul]
    have : min k (xs.length - l) * s ≤ (xs.length - l) * s := Nat.mul_le_mul_right _ (Nat.min_le_right _ _)
    omega
theorem rowR_sub {a : Option Addr} {s : Nat} {xs : List (List Value)} (l k m : Nat) (hm : xs.length ≤ m) (h : Frag) (p : rowR a s xs h) : rowR (subA a s l m) s ((xs.drop l).take k) h := by
  unfold rowR at p ⊢
  obtain ⟨hf, hp⟩ := p
  refine ⟨fun x hx => hf x (List.mem_of_mem_drop (List.mem_of_mem_take hx)), ?_⟩
  by_cases hpos : 0 < ((xs.drop l).take k).length
  · have hl : l < xs.length := by rw [List.length_take, List.length_drop] at hpos; omega
    rcases hp with rfl | ⟨b, off, cs, e, fr, rfl, hb, ht⟩
    · exact absurd hl (Nat.not_lt_zero _)
    · refine .inr ⟨b, off + l * s, cs, e, fr, ?_, hb, ?_⟩
      · unfold subA
        rw [if_neg (by omega)]
        simp [Addr.add]
      · have hf2 : Flat s (xs.drop l) := fun x hx => hf x (List.mem_of_mem_drop hx)
        have e1 : ((xs.drop l).take k).flatten = (xs.drop l).flatten.take (((xs.drop l).take k).length * s) := by
          have h1 : (xs.drop l).flatten = ((xs.drop l).take k).flatten ++ ((xs.drop l).drop k).flatten := by rw [← List.flatten_append, List.take_append_drop]
          have h3 : Flat s ((xs.drop l).take k) := fun x hx => hf2 x (List.mem_of_mem_take hx)
          rw [h1, List.take_left' h3.length]
        rw [e1, flat_drop hf, ← ht, List.drop_take, List.drop_drop, List.take_take]
        congr 1
        rw [List.length_take, List.length_drop, ← Nat.sub_mul]
        have : min k (xs.length - l) * s ≤ (xs.length - l) * s := Nat.mul_le_mul_right _ (Nat.min_le_right _ _)
        omega
  · exact .inl (List.eq_nil_of_length_eq_zero (by omega))
section
variable {P : Program} {C : Cx} {Q : Exit → Act → World → Prop} {ρ : Env} {hs hs1 : List Assn} {a : Option Addr} {s : Nat} {xs : List (List Value)}
theorem rowR_cut {l : List Assn} {h : Frag} (i k m : Nat) (hm : xs.length ≤ m) (st : Stars (rowR a s xs :: l) h) : Stars (rowR (subA a s i m) s ((xs.drop i).take k) :: rowR a s xs :: l) h :=
  rowR_pick (fun h p => rowR_sub i k m hm h p) st
theorem J.cut {c : Code} (i k m : Nat) (hm : xs.length ≤ m) (t : Take (rowR a s xs) hs hs1) (q : J P C c Q ρ (rowR (subA a s i m) s ((xs.drop i).take k) :: rowR a s xs :: hs1)) : J P C c Q ρ hs :=
  J.weak (fun _ st => rowR_cut i k m hm (Stars.perm t.perm st)) q
theorem JL.cut {ops : Array Oper} {rest : List Oper} (i k m : Nat) (hm : xs.length ≤ m) (t : Take (rowR a s xs) hs hs1) (q : JL P C ops Q rest ρ (rowR (subA a s i m) s ((xs.drop i).take k) :: rowR a s xs :: hs1)) : JL P C ops Q rest ρ hs :=
  JL.weak (fun _ st => rowR_cut i k m hm (Stars.perm t.perm st)) q
theorem At.cut {ex : Exit} (i k m : Nat) (hm : xs.length ≤ m) (t : Take (rowR a s xs) hs hs1) (q : At C Q ex ρ (rowR (subA a s i m) s ((xs.drop i).take k) :: rowR a s xs :: hs1)) : At C Q ex ρ hs :=
  At.weak (fun _ st => rowR_cut i k m hm (Stars.perm t.perm st)) q
end

/-! ### methods of interfaces -/
theorem Ef.callm {P : Program} {C : Cx} {hs : List Assn} {ρ : Env} {d : Option Tmp} {ty : TypeId} {pos : String} {af : Array Edge} {g : Option (Nat × Bool)} {K : Value → List Assn → Prop} {t : TypeId} {v v' : Value} {name : String}
    {f : FuncId} {args : List Value} {x : Operand} {xs : List Operand} {ats : Array TypeId} {pre rest : List Assn} {X : Type} {R : X → Prop} {rt : X → Value} {post : X → List Assn}
    (hx : Ev C.n ρ x (.iface t v)) (hm : ∀ w, (Go.method (P.types.size + Made.depth) t v name).run P w = .ok (f, v') w) (ha : EvL C.n ρ xs args) (hc : Fn P f (v' :: args) pre R rt post) (sel : Sel pre hs rest) (k : ∀ x, R x → K (rt x) (post x ++ rest)) :
    Ef P C hs ρ ⟨d, .call { callee := .invoke x name, args := xs.toArray, argTypes := ats }, ty, pos, af, g⟩ K :=
  Ef.of_calls (args := v' :: args) (fun w => by
    rw [Oper.semAt_eq _ _ _ (fun c h => by cases h)]
    have h1 := hx C.ds
    have h2 := ha.map C.ds
    have hp : ∀ w, (program : Sem Program).run P w = .ok P w := fun _ => rfl
    show (execOp (act C.n C.ds ρ).eval _).run P w = _
    simp only [execOp, resolve, h1, h2, Sem.run_bind, Sem.run_pure, Result.andThen, Go.invoke]
    simp [Go.callMethod, Sem.run_bind, hp, Result.andThen, hm, run_callFunc hc.ent]) hc sel k
end Go.Proofs.YtbhladkbnleeoaaGreat

namespace Go.Proofs.YtbhladkbnleeoaaGreat

theorem wu64 {z : Int} (h1 : 0 ≤ z) (h2 : z ≤ 18446744073709551615) : IntKind.u64.wrap z = z := by
  simp only [IntKind.wrap, IntKind.bits, IntKind.signed]; simp; omega
theorem str_cells (l : List UInt8) : Lib.strCells ⟨l.toArray⟩ = bv l := by simp [Lib.strCells, bv]
theorem str_sz (l : List UInt8) : (⟨l.toArray⟩ : ByteArray).size = l.length := by simp [ByteArray.size]

theorem run_appStr {P : Program} {t t2 e ty : TypeId} {bytes : Nat} {z : List Value} (E : Elt P t e 1 bytes z) (hu : P.underlying t2 = some .string) {C : Cx} {hs hs1 : List Assn} {w : World} {a : Option Addr} {cap : Nat} {xs : List (List Value)} {l : List UInt8}
    (tk : Take (row a cap e 1 xs) hs hs1) (hi : C.inv hs w) (hbig : (xs.length + l.length) * bytes ≤ 140737488355328) (hbig' : xs.length + l.length ≤ maxLen) :
    ∃ a' cap' w', (Builtin.append_ #[t, t2] ty #[.slice a xs.length cap, str l]).run P w = .ok (.slice a' (xs.length + l.length) cap') w' ∧ C.inv (row a' cap' e 1 (xs ++ b1s l) :: hs1) w' := by
  obtain ⟨i, v, hi1, hz, hsz, hby, hzc⟩ := E.info
  have hsl := str_sz l
  have hcs := str_cells l
  have hone : ∀ u ∈ bv l, u.oneCell' = true := bv_one l
  have hzs : v.cells.size = 1 := by rw [hzc]; simpa using E.len
  have h63 : ((xs.length + l.length : Nat) : Int) ≤ 9223372036854775807 := by simp only [maxLen] at hbig'; omega
  have hcell : ∀ k, (Builtin.zeroCells v.cells k).toList.length = k := fun k => by rw [Array.length_toList, size_zeroCells, hzs, Nat.mul_one]
  have hlen : (xs ++ b1s l).length = xs.length + l.length := by simp
  have hflat : (xs ++ b1s l).flatten = xs.flatten ++ bv l := by rw [List.flatten_append, b1s_flatten]
  have hFl : ∀ hf : Flat 1 xs, Flat 1 (xs ++ b1s l) := fun hf x hx => by
    rcases List.mem_append.1 hx with hx | hx
    · exact hf x hx
    · exact b1s_flat l x hx
  have hfirst := fun w => Lib.run_firstCells_string (P := P) w i.size ⟨l.toArray⟩
  simp only [hcs, hsl] at hfirst
  rcases row_open tk hi with ⟨hf, ⟨rfl, rfl, rfl, hi'⟩ | ⟨b, cs, lo, hi2, rfl, hi', r1, r2, r3, r4, r5⟩⟩
  · by_cases hl0 : l.length = 0
    · have : l = [] := List.eq_nil_of_length_eq_zero hl0
      subst this
      refine ⟨none, 0, w, ?_, hi'.mono fun h st => row_nil e 1 st⟩
      have hs0 : (⟨([] : List UInt8).toArray⟩ : ByteArray).size = 0 := rfl
      simp [Builtin.append_, run_underlying E.sl, run_underlying hu, sizeOf, typeInfo, hi1, Builtin.lenOf, Builtin.firstCells, str, hs0]
    · have hr := run_append_nil_string (P := P) w t t2 ty e i v E.sl hu hi1 hz ⟨l.toArray⟩ (by rw [hsl]; omega) (by rw [hsl]; simpa using h63) (by rw [hsl, hby]; simp at hbig; omega)
      rw [hsl] at hr
      refine ⟨_, _, _, by rw [List.length_nil, Nat.zero_add]; exact hr, ?_⟩
      have hal := (Inv.drew hi').alloc (.cells ((⟨l.toArray⟩ : ByteArray).data.map (fun b => Value.int .u8 b.toNat) ++ Builtin.zeroCells v.cells (grownCap w l.length 0 e - l.length)) e)
      have hge := grownCap_ge w l.length 0 e
      refine hal.mono fun h st => ?_
      have hcs2 : ((⟨l.toArray⟩ : ByteArray).data.map (fun b => Value.int .u8 b.toNat) ++ Builtin.zeroCells v.cells (grownCap w l.length 0 e - l.length)) = (bv l ++ (Builtin.zeroCells v.cells (grownCap w l.length 0 e - l.length)).toList).toArray := by simp [bv]
      rw [hcs2] at st
      refine row_mk (hFl (fun x hx => by cases hx)) (.inl (Nat.le_refl _)) ?_ (by simpa using hge) (grownCap_le_maxLen w l.length 0 e (by simpa using hbig')) ?_ st
      · rw [List.length_append, bv_length, hcell]; omega
      · rw [hlen, hflat, List.length_nil, Nat.zero_add, Nat.mul_one, List.flatten_nil, List.nil_append, List.take_left' (bv_length l)]
  · have hg := Blk.inv .own hi'
    rw [Nat.mul_one] at r1 r2 r5
    have hxl : xs.flatten.length = xs.length := by rw [hf.length, Nat.mul_one]
    by_cases hroom : xs.length + l.length ≤ cap
    · have hfit : xs.length + (bv l).length ≤ cs.length := by rw [bv_length, r2]; exact hroom
      have hst := run_storeCells0 (P := P) (vs := bv l) (off := xs.length) hg (by rw [bv_length]; omega) hfit hone
      refine ⟨some ⟨b, 0, none⟩, cap, setBlk w b (.cells (splice cs xs.length (bv l)).toArray e (lo, hi2)), ?_, ?_⟩
      · simp only [str]
        simp [Builtin.append_, run_underlying E.sl, run_underlying hu, sizeOf, typeInfo, hi1, hsz, Builtin.lenOf, hsl, hroom, Addr.add_lit]
        simpa [hsz] using by rw [hsz] at hfirst; simp [hfirst, hst]
      · refine (hi'.upd .here).mono fun h st => ?_
        refine row_mk (hFl hf) (by rw [Nat.mul_one]; exact r1) (by rw [splice_length hfit, r2, Nat.mul_one]) (by rw [hlen]; exact hroom) r4 ?_ st
        rw [hlen, hflat, Nat.mul_one, ← bv_length l, splice_take hfit, r5]
    · have holds : ∀ j u, xs.flatten[j]? = some u → w.cell? ((⟨b, 0, none⟩ : Addr).add j) = some u :=
        loads_of hg (by rw [List.drop_zero, hxl]; exact r5)
      have hr := Lib.run_append_grow_string (P := P) w t t2 ty e i v E.sl hu hi1 hz ⟨b, 0, none⟩ xs.length cap xs.flatten (by rw [hxl, hsz, Nat.mul_one]) holds ⟨l.toArray⟩ (by rw [hsl]; omega) (by rw [hsl]; exact h63) (by rw [hsl, hby]; exact growslice_fits (by omega) hbig)
      rw [hsl] at hr
      refine ⟨_, _, _, hr, ?_⟩
      have hi3 : Inv C.h0 C.w0 hs1 w.drew := (Inv.drew hi').mono fun _ st => st.tail
      have hal := hi3.alloc (.cells (xs.flatten.toArray ++ (Lib.strCells ⟨l.toArray⟩).toArray ++ Builtin.zeroCells v.cells (grownCap w (xs.length + l.length) cap e - (xs.length + l.length))) e)
      have hge := grownCap_ge w (xs.length + l.length) cap e
      refine hal.mono fun h st => ?_
      have hcs2 : (xs.flatten.toArray ++ (Lib.strCells ⟨l.toArray⟩).toArray ++ Builtin.zeroCells v.cells (grownCap w (xs.length + l.length) cap e - (xs.length + l.length))) = (xs.flatten ++ bv l ++ (Builtin.zeroCells v.cells (grownCap w (xs.length + l.length) cap e - (xs.length + l.length))).toList).toArray := by rw [hcs]; simp
      rw [hcs2] at st
      refine row_mk (hFl hf) (.inl (Nat.le_refl _)) ?_ (by rw [hlen]; exact hge) (grownCap_le_maxLen w (xs.length + l.length) cap e hbig') ?_ st
      · rw [List.length_append, List.length_append, hxl, bv_length, hcell]; omega
      · rw [hlen, hflat, Nat.mul_one, List.take_left' (by rw [List.length_append, hxl, bv_length])]

section
variable {P : Program} {C : Cx} {hs hs1 : List Assn} {ρ : Env} {d : Option Tmp} {ty : TypeId} {pos : String} {af : Array Edge} {g : Option (Nat × Bool)} {K : Value → List Assn → Prop}
  {x y z : Operand} {v u : Value} {t t' t2 e : TypeId} {s bytes : Nat} {zs : List Value}

theorem Ef.appStr (E : Elt P t e 1 bytes zs) (hu : P.underlying t2 = some .string) {a : Option Addr} {cap n : Nat} {xs : List (List Value)} {l : List UInt8}
    (h1 : Ev C.n ρ x (.slice a n cap)) (h2 : Ev C.n ρ y (str l)) (tk : Take (row a cap e 1 xs) hs hs1) (hn : xs.length = n) (hbig : (n + l.length) * bytes ≤ 140737488355328) (hbig' : n + l.length ≤ maxLen)
    (k : ∀ a' cap', K (.slice a' (n + l.length) cap') (row a' cap' e 1 (xs ++ b1s l) :: hs1)) :
    Ef P C hs ρ ⟨d, .call { callee := .builtin .append, args := #[x, y], argTypes := #[t, t2] }, ty, pos, af, g⟩ K := fun w hi => by
  subst hn
  obtain ⟨a', cap', w', hr, hi'⟩ := run_appStr (ty := ty) E hu tk hi hbig hbig'
  refine .inl ⟨_, _, w', .inl ?_, hi', k a' cap'⟩
  rw [Oper.semAt_eq _ _ _ (fun c h => by cases h)]
  show (execOp (act C.n C.ds ρ).eval _).run P w = _
  simp only [execOp, resolve, invoke, builtin]
  simp [h1 C.ds, h2 C.ds, hr, Result.andThen]

/-- Room for n elements. -/
theorem Ef.appZ (E : Elt P t e s bytes zs) {tn : TypeId} {kn k' : IntKind} (htn : P.underlying tn = some (.int kn)) {n : Nat} (h1 : Ev C.n ρ x (.slice none 0 0)) (h2 : Ev C.n ρ y (.int k' (n : Int))) (h0 : 0 < n) (hbig : n * bytes ≤ 140737488355328) (hbig' : n ≤ maxLen)
    (k : ∀ b cap', n ≤ cap' → K (.slice (some ⟨b, 0, none⟩) n cap') (row (some ⟨b, 0, none⟩) cap' e s [] :: hs)) :
    Ef P C hs ρ ⟨d, .call { callee := .builtin .append, args := #[x, y], argTypes := #[t, tn] }, ty, pos, af, g⟩ K := fun w hi => by
  obtain ⟨i, v, hi1, hz, hsz, hby, hzc⟩ := E.info
  have hzs : v.cells.size = s := by rw [hzc]; simpa using E.len
  have hcell : ∀ k, (Builtin.zeroCells v.cells k).toList.length = k * s := fun k => by rw [Array.length_toList, size_zeroCells, hzs]
  have h63 : (n : Int) ≤ 9223372036854775807 := by simp only [maxLen] at hbig'; omega
  have hr := Lib.run_append_nil_zeros (P := P) w t tn ty e i v k' kn E.sl htn hi1 hz n h0 (by rw [hsz]; exact E.pos) h63 (by rw [hby]; omega)
  have hge := grownCap_ge w n 0 e
  have hal := (Inv.drew hi).alloc (.cells (Builtin.zeroCells v.cells n ++ Builtin.zeroCells v.cells (grownCap w n 0 e - n)) e)
  refine .inl ⟨_, _, _, .inl ?_, hal.mono fun h st => ?_, k w.heap.size _ hge⟩
  · rw [Oper.semAt_eq _ _ _ (fun c h => by cases h)]
    show (execOp (act C.n C.ds ρ).eval _).run P w = _
    simp only [execOp, resolve, invoke, builtin]
    simp [h1 C.ds, h2 C.ds, hr, Result.andThen]
  · have hcs : (Builtin.zeroCells v.cells n ++ Builtin.zeroCells v.cells (grownCap w n 0 e - n)) = ((Builtin.zeroCells v.cells n).toList ++ (Builtin.zeroCells v.cells (grownCap w n 0 e - n)).toList).toArray := by simp
    rw [hcs] at st
    refine row_mk (fun x hx => by cases hx) (.inl (Nat.le_refl _)) ?_ (Nat.zero_le _) (grownCap_le_maxLen w n 0 e (by simpa using hbig')) (by simp) st
    rw [List.length_append, hcell, hcell, ← Nat.add_mul]
    congr 1
    omega
theorem Rd.capS {a : Option Addr} {n c : Nat} (hu : ∀ w, (underlying t).run P w = .ok (.slice e) w) (h : Ev C.n ρ x (.slice a n c)) : Rd P C hs ρ ⟨d, .call { callee := .builtin .cap, args := #[x], argTypes := #[t] }, ty, pos, af, g⟩ (.int .i64 c) :=
  Rd.of (fun c h => by cases h) fun w hi => by
    show (execOp (act C.n C.ds ρ).eval _).run P w = _
    simp [execOp, resolve, invoke, builtin, Builtin.cap_, Sem.run_bind, Result.andThen, hu w, h C.ds, goInt]

/-- A literal of bytes whose building is known. -/
theorem Ef.byLitN {parts : List (Nat × Operand)} {vs : List (Nat × Value)} {l : List UInt8} {n : Nat} (h : EvP C.n ρ parts vs)
    (hr : ∀ w, (Instr.buildSlice t n vs.toArray).run P w = .ok (.slice (some ⟨w.heap.size, 0, none⟩) n n) (w.alloc (.cells (bv l).toArray e))) (hn : l.length = n) (hm : n ≤ maxLen)
    (k : ∀ b, K (.slice (some ⟨b, 0, none⟩) n n) (bytesA (some ⟨b, 0, none⟩) n l :: hs)) : Ef P C hs ρ ⟨d, .buildSlice t n parts.toArray, ty, pos, af, g⟩ K := by
  refine Ef.csq (Ef.slitR (cs := bv l) (e := e) h hr fun b => ⟨bytesA (some ⟨b, 0, none⟩) n l :: hs, fun h s => ?_, k b⟩)
  exact bytes_all hn hm s

/-- copy into bytes that are owned, from a place on. -/
theorem Ef.copyB {b i n c m c2 cap : Nat} {a2 : Option Addr} {l u : List UInt8} {ats : Array TypeId} (ha : ats[0]? = some t) (hu : ∀ w, (underlying t).run P w = .ok (.slice e) w) (hz : ∀ w, (sizeOf e).run P w = .ok 1 w)
    (h1 : Ev C.n ρ x (.slice (some ⟨b, i, none⟩) n c)) (h2 : Ev C.n ρ y (.slice a2 m c2)) (tk : Take (bytesA (some ⟨b, 0, none⟩) cap l) hs hs1) (hin : SIn hs a2 1 (b1s u)) (hm : u.length = m) (hpos : 0 < m) (hmn : m ≤ n) (hil : i + n ≤ l.length) (hsm : m ≤ 9223372036854775807)
    (k : K (.int .i64 m) (bytesA (some ⟨b, 0, none⟩) cap (l.take i ++ u ++ l.drop (i + m)) :: hs1)) : Ef P C hs ρ ⟨d, .call { callee := .builtin .copy, args := #[x, y], argTypes := ats }, ty, pos, af, g⟩ K := fun w hi => by
  subst hm
  obtain ⟨hf2, hx2⟩ := hin _ _ w hi
  obtain ⟨b2, o2, cs2, e2, fr2, rfl, hb2, ht2⟩ := hx2 (by rw [b1s_length]; exact hpos)
  obtain ⟨e1, hi1⟩ := bytes_open tk hi
  rcases row_open .here hi1 with ⟨hf, ⟨h, _⟩ | ⟨b', cs, lo, hi2, hbb, hi', r1, r2, r3, r4, r5⟩⟩
  · cases h
  · cases hbb
    have hg := Blk.inv .own hi'
    rw [Nat.mul_one] at r1 r2
    rw [b1s_length, Nat.mul_one, b1s_flatten] at r5
    rw [b1s_length] at r3
    have hld := run_loadRow (P := P) (vs := bv u) hb2 (by rw [b1s_length, Nat.mul_one, b1s_flatten] at ht2; rw [← bv_length u]; rw [bv_length u]; exact ht2) (bv_length u)
    have hst := run_storeRow (P := P) (bv u) (i := 0) (off := i) hg (by rw [bv_length]; omega) (by rw [bv_length]; omega) (bv_one u)
    rw [Nat.add_zero] at hst
    have hspl : splice cs i (bv u) = bv (l.take i ++ u ++ l.drop (i + u.length)) ++ cs.drop l.length := by
      have hcs : cs = bv l ++ cs.drop l.length := by rw [← r5, List.take_append_drop]
      conv => lhs; rw [hcs]
      unfold splice
      rw [bv_append, bv_append, bv_take, bv_drop, List.take_append_of_le_length (by rw [bv_length]; omega), bv_length, List.drop_append_of_le_length (by rw [bv_length]; omega)]
      simp only [List.append_assoc]
    refine .inl ⟨_, _, _, .inl ?_, (hi'.upd (o' := .cells (splice cs i (bv u)).toArray e1 (lo, hi2)) .here).mono fun h st => ?_, k⟩
    · rw [Oper.semAt_eq _ _ _ (fun c h => by cases h)]
      show (execOp (act C.n C.ds ρ).eval _).run P w = _
      simp only [execOp, resolve, invoke, builtin]
      have hmin : Nat.min u.length n = u.length := Nat.min_eq_left hmn
      have hc : (Builtin.copy_ ats ty #[.slice (some ⟨b, i, none⟩) n c, .slice (some ⟨b2, o2, none⟩) u.length c2]).run P w = .ok (.int .i64 u.length) (setBlk w b (.cells (splice cs i (bv u)).toArray e1 (lo, hi2))) := by
        simp [Builtin.copy_, ha, Sem.run_bind, hu w, hz w, Result.andThen, Builtin.lenOf, hmin, Builtin.firstCells, hld, hst, goInt]
      simp [h1 C.ds, h2 C.ds, hc, Result.andThen]
    · have hl : (l.take i ++ u ++ l.drop (i + u.length)).length = l.length := by simp; omega
      rw [hspl] at st
      refine bytes_shut (e := e1) (row_mk (b1s_flat _) (by rw [Nat.mul_one]; exact r1) ?_ (by rw [b1s_length, hl]; exact r3) r4 ?_ st)
      · rw [List.length_append, bv_length, hl, List.length_drop, r2]; omega
      · rw [b1s_length, Nat.mul_one, b1s_flatten, List.take_left' (bv_length _)]

theorem Rd.slToN {a : Option Addr} {n cap s j : Nat} {k' : IntKind} (hu : ∀ w, (underlying t).run P w = .ok (.slice e) w) (hz : ∀ w, (sizeOf e).run P w = .ok s w) (h : Ev C.n ρ x (.slice a n cap)) (hj : Ev C.n ρ y (.int k' (j : Int))) (h2 : j ≤ cap) :
    Rd P C hs ρ ⟨d, .slice t x none (some y) none, ty, pos, af, g⟩ (.slice a j cap) := by
  have := Rd.slTo (P := P) (C := C) (hs := hs) (d := d) (ty := ty) (pos := pos) (af := af) (g := g) hu hz h hj (by omega) (by omega)
  rwa [Int.toNat_natCast] at this

/-! ### types asserted -/
theorem Rd.asT {dsc : TypeDesc} {xt : TypeId} (h1 : Ev C.n ρ x (.iface t v)) (hu : ∀ w, (underlying t).run P w = .ok dsc w) (hd : ∀ ms, dsc ≠ .interface ms) : Rd P C hs ρ ⟨d, .typeAssert x xt t false, ty, pos, af, g⟩ v :=
  Rd.ex (fun c h => by cases h) (Instr.typeAssert (.iface t v) xt t false) (fun ds => by simp only [execOp, h1 ds]) fun w _ => by
    simp only [Instr.typeAssert, Sem.run_bind, hu w, Result.andThen]
    cases dsc <;> first | (simp only [if_true]; rfl) | exact absurd rfl (hd _)
theorem Rd.asOk {dsc : TypeDesc} {xt : TypeId} (h1 : Ev C.n ρ x (.iface t v)) (hu : ∀ w, (underlying t).run P w = .ok dsc w) (hd : ∀ ms, dsc ≠ .interface ms) : Rd P C hs ρ ⟨d, .typeAssert x xt t true, ty, pos, af, g⟩ (.tuple [v, .bool true].toArray) :=
  Rd.ex (fun c h => by cases h) (Instr.typeAssert (.iface t v) xt t true) (fun ds => by simp only [execOp, h1 ds]) fun w _ => by
    simp only [Instr.typeAssert, Sem.run_bind, hu w, Result.andThen]
    cases dsc <;> first | (simp only [if_true]; rfl) | exact absurd rfl (hd _)
theorem Rd.asNo {dsc : TypeDesc} {xt : TypeId} {z : Value} (h1 : Ev C.n ρ x (.iface t v)) (hne : t ≠ t') (hu : ∀ w, (underlying t').run P w = .ok dsc w) (hd : ∀ ms, dsc ≠ .interface ms) (hz : ∀ w, (zeroValue t').run P w = .ok z w) : Rd P C hs ρ ⟨d, .typeAssert x xt t' true, ty, pos, af, g⟩ (.tuple [z, .bool false].toArray) :=
  Rd.ex (fun c h => by cases h) (Instr.typeAssert (.iface t v) xt t' true) (fun ds => by simp only [execOp, h1 ds]) fun w _ => by
    simp only [Instr.typeAssert, Sem.run_bind, hu w, Result.andThen]
    cases dsc <;> first | (simp only [if_neg hne, if_true, Sem.run_bind, hz w, Result.andThen]; rfl) | exact absurd rfl (hd _)
end
/-- A contract put in other words, with other results. -/
theorem Fn.cvx {P : Program} {f : FuncId} {args : List Value} {pre pre' : List Assn} {X X' : Type} {R : X → Prop} {R' : X' → Prop} {rt : X → Value} {rt' : X' → Value} {post : X → List Assn} {post' : X' → List Assn} (F : Fn P f args pre R rt post) (g : X → X')
    (hR : ∀ x, R x → R' (g x)) (hpre : ∀ h, Stars pre' h → Stars pre h) (hrt : ∀ x, R x → rt x = rt' (g x)) (hpost : ∀ x h, R x → Stars (post x) h → Stars (post' (g x)) h) : Fn P f args pre' R' rt' post' :=
  ⟨F.ent, fun w h s b => (F.calls w h (hpre h s) b).mono fun e w' ⟨x, h', r, he, s', b', f'⟩ => ⟨g x, h', hR x r, by rw [he, hrt x r], hpost x h' r s', b', f'⟩⟩
end Go.Proofs.YtbhladkbnleeoaaGreat

