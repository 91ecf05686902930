/-
  A small separation logic over the model's worlds, and the judgement J: no program in it.
-/
import Derived.OrdersIn
import Derived.TacticsIn
import Derived.RangeFuncIn
import Derived.RangeFuncLeaves
import Derived.RangeFuncCalls
import Derived.Below
import Derived.WalkKit
namespace Go.Proofs.Ytfnoaohbjlnkgaa

/-! ### fragments of the heap: `true` owned, `false` read only -/
abbrev Frag := Nat → Option (Bool × Obj)
abbrev Assn := Frag → Prop

def Own (h : Frag) (b : Nat) : Prop := ∃ o, h b = some (true, o)
def Cmp (h g : Frag) : Prop := ∀ b, h b = none ∨ g b = none ∨ (h b = g b ∧ ∃ o, h b = some (false, o))
def jn (h g : Frag) : Frag := fun b => (h b).or (g b)
def Sub (h : Frag) (w : World) : Prop := ∀ b f o, h b = some (f, o) → w.heap[b]? = some o

structure Fr (h : Frag) (w : World) (h' : Frag) (w' : World) : Prop where
  os : w'.os = w.os
  tape : w'.tape = w.tape
  output : w'.output = w.output
  size : w.heap.size ≤ w'.heap.size
  keep : ∀ b, b < w.heap.size → ¬ Own h b → w'.heap[b]? = w.heap[b]?
  own : ∀ b, Own h' b → Own h b ∨ w.heap.size ≤ b
  dom : ∀ b, h' b ≠ none → h b ≠ none ∨ w.heap.size ≤ b

theorem Fr.refl (h : Frag) (w : World) : Fr h w h w := ⟨rfl, rfl, rfl, Nat.le_refl _, fun _ _ _ => rfl, fun _ h => .inl h, fun _ h => .inl h⟩

theorem Fr.trans {h w h1 w1 h2 w2} (a : Fr h w h1 w1) (b : Fr h1 w1 h2 w2) : Fr h w h2 w2 where
  os := b.os.trans a.os
  tape := b.tape.trans a.tape
  output := b.output.trans a.output
  size := Nat.le_trans a.size b.size
  keep := fun k hk hn => by
    have h1 : ¬ Own h1 k := fun ho => by
      rcases a.own k ho with h | h
      · exact hn h
      · omega
    exact (b.keep k (Nat.lt_of_lt_of_le hk a.size) h1).trans (a.keep k hk hn)
  own := fun k hk => by
    rcases b.own k hk with h | h
    · exact a.own k h
    · exact .inr (Nat.le_trans a.size h)
  dom := fun k hk => by
    rcases b.dom k hk with h | h
    · exact a.dom k h
    · exact .inr (Nat.le_trans a.size h)

theorem Cmp.symm {h g : Frag} (c : Cmp h g) : Cmp g h := fun b => by
  rcases c b with x | x | ⟨x, o, y⟩
  · exact .inr (.inl x)
  · exact .inl x
  · exact .inr (.inr ⟨x.symm, o, x ▸ y⟩)

theorem jn_comm {h g : Frag} (c : Cmp h g) : jn h g = jn g h := by
  funext b
  unfold jn
  rcases c b with x | x | ⟨x, o, y⟩
  · rw [x]; cases g b <;> rfl
  · rw [x]; cases h b <;> rfl
  · rw [← x]

theorem jn_assoc (h g k : Frag) : jn (jn h g) k = jn h (jn g k) := by
  funext b; unfold jn; cases h b <;> rfl

theorem Cmp.jn_left {h g k : Frag} (c : Cmp (jn h g) k) (hg : Cmp h g) : Cmp h k ∧ Cmp g k := by
  constructor
  · intro b
    rcases c b with x | x | ⟨x, o, y⟩
    · left; unfold jn at x; revert x; cases h b <;> simp
    · exact .inr (.inl x)
    · unfold jn at x y
      cases hh : h b with
      | none => exact .inl rfl
      | some z => rw [hh] at x y; exact .inr (.inr ⟨x, o, y⟩)
  · intro b
    rcases c b with x | x | ⟨x, o, y⟩
    · left; unfold jn at x; revert x; cases h b <;> simp
    · exact .inr (.inl x)
    · unfold jn at x y
      cases hh : h b with
      | none => rw [hh] at x y; exact .inr (.inr ⟨x, o, y⟩)
      | some z =>
        rw [hh] at x y
        rcases hg b with u | u | ⟨u, p, v⟩
        · rw [hh] at u; cases u
        · exact .inl u
        · rw [hh] at u v
          exact .inr (.inr ⟨by rw [← u]; exact x, p, by rw [← u]; exact v⟩)

theorem Cmp.jn_mk {h g k : Frag} (a : Cmp h k) (b : Cmp g k) : Cmp (jn h g) k := by
  intro x
  unfold jn
  cases hh : h x with
  | none => exact b x
  | some z =>
    rcases a x with u | u | ⟨u, o, v⟩
    · rw [hh] at u; cases u
    · exact .inr (.inl u)
    · exact .inr (.inr ⟨by rw [hh] at u; exact u, o, by rw [hh] at v; exact v⟩)

theorem Sub.left {h g : Frag} {w : World} (s : Sub (jn h g) w) : Sub h w := fun b f o e => s b f o (by unfold jn; rw [e]; rfl)
theorem Sub.right {h g : Frag} {w : World} (c : Cmp h g) (s : Sub (jn h g) w) : Sub g w := Sub.left (jn_comm c ▸ s)
theorem Sub.mk {h g : Frag} {w : World} (a : Sub h w) (b : Sub g w) : Sub (jn h g) w := fun x f o e => by
  unfold jn at e
  cases hh : h x with
  | none => rw [hh] at e; exact b x f o e
  | some z => rw [hh] at e; simp at e; exact a x f o (by rw [hh, e])

theorem Sub.lt {h : Frag} {w : World} (s : Sub h w) {b : Nat} (hb : h b ≠ none) : b < w.heap.size := by
  cases hh : h b with
  | none => exact absurd hh hb
  | some z =>
    have := s b z.1 z.2 (by rw [hh])
    exact (Array.getElem?_eq_some_iff.1 this).1

/-! ### lists of assertions -/
def Stars : List Assn → Assn
  | [], _ => True
  | A :: l, h => ∃ h1 h2, A h1 ∧ Stars l h2 ∧ Cmp h1 h2 ∧ h = jn h1 h2

theorem Stars.weak {l : List Assn} : ∀ {h g : Frag}, Stars l h → Cmp h g → Stars l (jn h g) := by
  induction l with
  | nil => intros; trivial
  | cons A l ih =>
    rintro h g ⟨h1, h2, a, b, c, rfl⟩ hc
    have hc' := Cmp.jn_left hc c
    refine ⟨h1, jn h2 g, a, ih b hc'.2, ?_, jn_assoc _ _ _⟩
    exact (Cmp.jn_mk c.symm hc'.1.symm).symm

theorem Stars.tail {A : Assn} {l : List Assn} {h : Frag} (s : Stars (A :: l) h) : Stars l h := by
  obtain ⟨h1, h2, a, b, c, rfl⟩ := s
  rw [jn_comm c]
  exact Stars.weak b c.symm

theorem Stars.swap {A B : Assn} {l : List Assn} {h : Frag} (s : Stars (A :: B :: l) h) : Stars (B :: A :: l) h := by
  obtain ⟨h1, h2, a, ⟨h3, h4, b, s, c, rfl⟩, d, rfl⟩ := s
  have hd := Cmp.jn_left d.symm c
  refine ⟨h3, jn h1 h4, b, ⟨h1, h4, a, s, hd.2.symm, rfl⟩, ?_, ?_⟩
  · exact (Cmp.jn_mk hd.1.symm c.symm).symm
  · rw [← jn_assoc, ← jn_assoc, jn_comm hd.1.symm]

theorem Stars.cons {A : Assn} {l l' : List Assn} (f : ∀ h, Stars l h → Stars l' h) {h : Frag} (s : Stars (A :: l) h) : Stars (A :: l') h := by
  obtain ⟨h1, h2, a, b, c, rfl⟩ := s
  exact ⟨h1, h2, a, f _ b, c, rfl⟩

theorem Stars.perm {l l' : List Assn} (p : l.Perm l') : ∀ {h : Frag}, Stars l h → Stars l' h := by
  induction p with
  | nil => exact fun s => s
  | cons A _ ih => exact fun s => Stars.cons (fun _ => ih) s
  | swap A B l => exact fun s => Stars.swap s
  | trans _ _ a b => exact fun s => b (a s)

theorem Stars.append {l l' : List Assn} : ∀ {h : Frag}, Stars (l ++ l') h ↔ ∃ h1 h2, Stars l h1 ∧ Stars l' h2 ∧ Cmp h1 h2 ∧ h = jn h1 h2 := by
  induction l with
  | nil =>
    intro h
    constructor
    · intro s
      refine ⟨fun _ => none, h, trivial, s, fun b => .inl rfl, ?_⟩
      funext b; rfl
    · rintro ⟨h1, h2, _, s, c, rfl⟩
      rw [jn_comm c]
      exact Stars.weak s c.symm
  | cons A l ih =>
    intro h
    constructor
    · rintro ⟨h1, h2, a, b, c, rfl⟩
      obtain ⟨h3, h4, s, t, d, rfl⟩ := ih.1 b
      have hd := Cmp.jn_left c.symm d
      refine ⟨jn h1 h3, h4, ⟨h1, h3, a, s, hd.1.symm, rfl⟩, t, Cmp.jn_mk hd.2.symm d, (jn_assoc _ _ _).symm⟩
    · rintro ⟨h1, h2, ⟨h3, h4, a, s, c, rfl⟩, t, d, rfl⟩
      have hd := Cmp.jn_left d c
      refine ⟨h3, jn h4 h2, a, ih.2 ⟨h4, h2, s, t, hd.2, rfl⟩, (Cmp.jn_mk c.symm hd.1.symm).symm, jn_assoc _ _ _⟩

theorem Stars.single {A : Assn} {h : Frag} (a : A h) : Stars [A] h := ⟨h, fun _ => none, a, trivial, fun _ => .inr (.inl rfl), by funext b; unfold jn; cases h b <;> rfl⟩

/-! ### block assertions -/
/-- The block b holds o, and is owned. -/
@[irreducible] def pts (b : Nat) (o : Obj) : Assn := fun h => h b = some (true, o)
/-- The block b holds o, now and later; nobody owns it. -/
@[irreducible] def ro (b : Nat) (o : Obj) : Assn := fun h => h b = some (false, o)
/-- A fact that speaks of no memory. -/
@[irreducible] def pure_ (p : Prop) : Assn := fun _ => p

/-! ### the state of a walk -/
def Inv (h0 : Frag) (w0 : World) (hs : List Assn) (w : World) : Prop := ∃ h, Stars hs h ∧ Sub h w ∧ Fr h0 w0 h w

theorem Inv.mono {h0 w0 hs hs' w} (i : Inv h0 w0 hs w) (f : ∀ h, Stars hs h → Stars hs' h) : Inv h0 w0 hs' w :=
  let ⟨h, s, b, r⟩ := i; ⟨h, f h s, b, r⟩

theorem Inv.perm {h0 w0 hs hs' w} (p : hs.Perm hs') (i : Inv h0 w0 hs w) : Inv h0 w0 hs' w := i.mono fun _ => Stars.perm p

theorem Inv.start (hs : List Assn) {h w} (s : Stars hs h) (b : Sub h w) : Inv h w hs w := ⟨h, s, b, Fr.refl _ _⟩

/-- THE FRAME RULE. -/
theorem Inv.split {h0 w0 pre rest w} (i : Inv h0 w0 (pre ++ rest) w) :
    ∃ h1, Stars pre h1 ∧ Sub h1 w ∧ ∀ h1' w' post, Stars post h1' → Sub h1' w' → Fr h1 w h1' w' → Inv h0 w0 (post ++ rest) w' := by
  obtain ⟨h, s, b, r⟩ := i
  obtain ⟨h1, h2, s1, s2, c, rfl⟩ := Stars.append.1 s
  have b1 := b.left
  have b2 := b.right c
  refine ⟨h1, s1, b1, fun h1' w' post sp bp f => ?_⟩
  have c' : Cmp h1' h2 := by
    intro x
    cases hx : h1' x with
    | none => exact .inl rfl
    | some z =>
      cases hy : h2 x with
      | none => exact .inr (.inl rfl)
      | some y =>
        have hlt : x < w.heap.size := b2.lt (by rw [hy]; simp)
        have hdom : h1 x ≠ none := by
          rcases f.dom x (by rw [hx]; simp) with u | u
          · exact u
          · omega
        rcases c x with u | u | ⟨u, o, v⟩
        · exact absurd u hdom
        · rw [hy] at u; cases u
        · have hno : ¬ Own h1 x := fun ⟨o', e⟩ => by rw [v] at e; cases e
          have hno' : ¬ Own h1' x := fun ho => by
            rcases f.own x ho with e | e
            · exact hno e
            · omega
          have e1 := b2 x y.1 y.2 (by rw [hy])
          have e2 := bp x z.1 z.2 (by rw [hx])
          rw [f.keep x hlt hno, e1] at e2
          have hz : z.1 = false := by
            cases hz : z.1 with
            | false => rfl
            | true => exact absurd ⟨z.2, by rw [hx, ← hz]⟩ hno'
          have hy1 : y.1 = false := by
            rw [u, hy] at v
            cases v; rfl
          right; right
          have e3 : y.2 = z.2 := Option.some.inj e2
          have e4 : z = y := by
            rcases z with ⟨z1, z2⟩
            rcases y with ⟨y1, y2⟩
            simp_all
          refine ⟨by rw [e4], z.2, ?_⟩
          rw [← hz]
  have bk : Sub h2 w' := fun x fl o e => by
    have hlt : x < w.heap.size := b2.lt (by rw [e]; simp)
    have hno : ¬ Own h1 x := fun ⟨o', e'⟩ => by
      rcases c x with u | u | ⟨u, p, v⟩
      · rw [e'] at u; cases u
      · rw [e] at u; cases u
      · rw [e'] at v; cases v
    rw [f.keep x hlt hno]
    exact b2 x fl o e
  refine ⟨jn h1' h2, Stars.append.2 ⟨h1', h2, sp, s2, c', rfl⟩, Sub.mk bp bk, r.trans ?_⟩
  refine ⟨f.os, f.tape, f.output, f.size, fun x hx hn => f.keep x hx fun ⟨o, e⟩ => hn ⟨o, by unfold jn; rw [e]; rfl⟩, fun x hx => ?_, fun x hx => ?_⟩
  · obtain ⟨o, e⟩ := hx
    unfold jn at e
    cases hh : h1' x with
    | none =>
      rw [hh] at e
      left
      refine ⟨o, ?_⟩
      have e' : h2 x = some (true, o) := e
      rw [jn_comm c]; unfold jn; rw [e']; rfl
    | some z =>
      rw [hh] at e
      simp at e
      rcases f.own x ⟨o, by rw [hh, e]⟩ with ⟨o', u⟩ | u
      · exact .inl ⟨o', by unfold jn; rw [u]; rfl⟩
      · exact .inr u
  · cases hh : h1' x with
    | none =>
      have : h2 x ≠ none := by unfold jn at hx; rw [hh] at hx; exact hx
      left; intro hn; apply this
      rw [jn_comm c] at hn; unfold jn at hn; revert hn; cases h2 x <;> simp
    | some z =>
      rcases f.dom x (by rw [hh]; simp) with u | u
      · left; intro hn; apply u; unfold jn at hn; revert hn; cases h1 x <;> simp
      · exact .inr u

end Go.Proofs.Ytfnoaohbjlnkgaa
