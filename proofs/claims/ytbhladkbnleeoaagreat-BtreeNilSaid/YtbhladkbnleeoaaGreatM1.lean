/-
  Parts of the proof: K0, K1, K2, K3, B0, D0, D2, D5, D1, D3, D4, D6, D7, D8, D9, G0, G1, G2, G3, G4, G5, G6, B9.
-/
import Derived.Test.YtbhladkbnleeoaaGreatM0
import Derived.Test.YtbhladkbnleeoaaGreatProg
import Derived.KernelRfl
namespace Go.Proofs.YtbhladkbnleeoaaGreat

abbrev Bs := List UInt8

/-! ### strings in order -/
theorem slt_nil (b : Bs) : slt [] b = !b.isEmpty := by cases b <;> rfl
theorem slt_cons (a b : UInt8) (s t : Bs) : slt (a :: s) (b :: t) = (decide (a < b) || (decide (a = b) && slt s t)) := by
  have h : slt (a :: s) (b :: t) = (decide (a < b) || (a == b && slt s t)) := rfl
  rw [h]
  by_cases h2 : a = b
  · simp [h2]
  · simp [h2]
theorem slt_irrefl : ∀ a : Bs, slt a a = false := by
  intro a
  induction a with
  | nil => rfl
  | cons x a ih => rw [slt_cons, ih]; simp
theorem slt_trans : ∀ {a b c : Bs}, slt a b = true → slt b c = true → slt a c = true := by
  intro a
  induction a with
  | nil =>
    intro b c h1 h2
    cases c with
    | nil => cases b with
      | nil => exact h1
      | cons y b => cases h2
    | cons z c => rfl
  | cons x a ih =>
    intro b c h1 h2
    cases b with
    | nil => cases h1
    | cons y b =>
      cases c with
      | nil => cases h2
      | cons z c =>
        rw [slt_cons] at h1 h2 ⊢
        simp only [Bool.or_eq_true, decide_eq_true_eq, Bool.and_eq_true] at h1 h2 ⊢
        rcases h1 with h1 | ⟨rfl, h1⟩
        · rcases h2 with h2 | ⟨rfl, h2⟩
          · exact .inl (UInt8.lt_trans h1 h2)
          · exact .inl h1
        · rcases h2 with h2 | ⟨rfl, h2⟩
          · exact .inl h2
          · exact .inr ⟨rfl, ih h1 h2⟩
theorem slt_total : ∀ {a b : Bs}, slt a b = false → slt b a = false → a = b := by
  intro a
  induction a with
  | nil =>
    intro b h1 h2
    cases b with
    | nil => rfl
    | cons y b => cases h1
  | cons x a ih =>
    intro b h1 h2
    cases b with
    | nil => cases h2
    | cons y b =>
      rw [slt_cons] at h1 h2
      simp only [Bool.or_eq_false_iff, decide_eq_false_iff_not, Bool.and_eq_false_iff] at h1 h2
      have e : x = y := UInt8.le_antisymm (UInt8.not_lt.1 h2.1) (UInt8.not_lt.1 h1.1)
      subst e
      rw [ih (h1.2.resolve_left (fun h => h rfl)) (h2.2.resolve_left (fun h => h rfl))]
theorem slt_asymm {a b : Bs} (h : slt a b = true) : slt b a = false := by
  cases h2 : slt b a
  · rfl
  · have := slt_trans h h2; rw [slt_irrefl] at this; cases this
theorem slt_ne {a b : Bs} (h : slt a b = true) : a ≠ b := fun e => by rw [e, slt_irrefl] at h; cases h

/-! ### the checksum -/
def crcBit (r : UInt32) : UInt32 := if r &&& 1 = 1 then (r >>> 1) ^^^ 0xEDB88320 else r >>> 1
def crcN : Nat → UInt32 → UInt32
  | 0, r => r
  | n + 1, r => crcN n (crcBit r)
theorem crcN_succ (n : Nat) (r : UInt32) : crcN (n + 1) r = crcBit (crcN n r) := by
  induction n generalizing r with
  | zero => rfl
  | succ n ih => rw [crcN, ih]; rfl
def crcByte (r : UInt32) (c : UInt8) : UInt32 := crcN 8 (r ^^^ c.toUInt32)
def crcFrom (r : UInt32) (l : Bs) : UInt32 := l.foldl crcByte r
def crcB (l : Bs) : UInt32 := ~~~ crcFrom (~~~ 0) l
/-! ### nodes -/
def be2 (n : Nat) : Bs := [UInt8.ofNat (n / 256), UInt8.ofNat n]
def be4 (n : Nat) : Bs := [UInt8.ofNat (n / 16777216), UInt8.ofNat (n / 65536), UInt8.ofNat (n / 256), UInt8.ofNat n]
def le4 (s : UInt32) : Bs := (List.range 4).map fun i => UInt8.ofNat (s.toNat / 2 ^ (8 * i))
@[simp] theorem le4_length (s) : (le4 s).length = 4 := by simp [le4]
/-- Entries: a key and its value. -/
abbrev It := Bs × Bs
/-- Children: a key and a block. -/
abbrev Kd := Bs × Nat
def itB (p : It) : Bs := UInt8.ofNat p.1.length :: be2 p.2.length ++ p.1 ++ p.2
def leafB (l : List It) : Bs := l.flatMap itB
def kidB (p : Kd) : Bs := be4 p.2 ++ UInt8.ofNat p.1.length :: p.1
def innerB : List Kd → Bs
  | [] => []
  | p :: l => be4 p.2 ++ l.flatMap kidB
inductive Nd where
  | leaf (l : List It)
  | inner (l : List Kd)
def Nd.body : Nd → Bs
  | .leaf l => leafB l
  | .inner l => innerB l
def Nd.kind : Nd → UInt8
  | .leaf _ => 1
  | .inner _ => 2
def Nd.count : Nd → Nat
  | .leaf l => l.length
  | .inner l => l.length
def ndPre (n : Nd) : Bs := n.kind :: be2 n.count ++ n.body ++ List.replicate (505 - n.body.length) 0
def ndEnc (n : Nd) : Bs := ndPre n ++ le4 (crcB (ndPre n))
theorem ndPre_length {n : Nd} (h : n.body.length ≤ 505) : (ndPre n).length = 508 := by
  simp [ndPre, be2]; omega
theorem ndEnc_length {n : Nd} (h : n.body.length ≤ 505) : (ndEnc n).length = 512 := by
  simp [ndEnc, ndPre_length h]
def sumOk (b : Bs) : Prop := b.drop 508 = le4 (crcB (b.take 508))
theorem ndEnc_sum {n : Nd} (h : n.body.length ≤ 505) : sumOk (ndEnc n) := by
  unfold sumOk ndEnc
  rw [List.drop_left' (ndPre_length h), List.take_left' (ndPre_length h)]
end Go.Proofs.YtbhladkbnleeoaaGreat

namespace Go.Proofs.YtbhladkbnleeoaaGreat

/-! ### the place of the division -/
def hbest (cost : Nat → Nat) (least : Nat) : Nat → Nat
  | 0 => least
  | k + 1 => if cost (least + k) < cost (hbest cost least k) then least + k else hbest cost least k
theorem hbest_le (cost : Nat → Nat) (least : Nat) : ∀ k, least ≤ hbest cost least k ∧ hbest cost least k ≤ least + (k - 1) := by
  intro k
  induction k with
  | zero => exact ⟨Nat.le_refl _, Nat.le_add_right _ _⟩
  | succ k ih =>
    unfold hbest
    split
    · exact ⟨Nat.le_add_right _ _, by omega⟩
    · exact ⟨ih.1, by omega⟩
theorem hbest_min (cost : Nat → Nat) (least : Nat) : ∀ k j, j < k → cost (hbest cost least k) ≤ cost (least + j) := by
  intro k
  induction k with
  | zero => intro j h; cases h
  | succ k ih =>
    intro j hj
    unfold hbest
    by_cases e : j = k
    · subst e
      split
      · exact Nat.le_refl _
      · omega
    · have := ih j (by omega)
      split
      · omega
      · exact this
/-- The division of n elements. -/
def halves (n least : Nat) (cost : Nat → Nat) : Nat := hbest cost least (n + 1 - 2 * least)
theorem halves_le {n least : Nat} {cost : Nat → Nat} (h : 2 * least ≤ n) : least ≤ halves n least cost ∧ halves n least cost ≤ n - least := by
  have := hbest_le cost least (n + 1 - 2 * least)
  unfold halves
  omega
theorem halves_min {n least : Nat} {cost : Nat → Nat} {i : Nat} (h1 : least ≤ i) (h2 : i + least ≤ n) : cost (halves n least cost) ≤ cost i := by
  have := hbest_min cost least (n + 1 - 2 * least) (i - least) (by omega)
  unfold halves
  rwa [show least + (i - least) = i by omega] at this

section
variable {α : Type} (ok : α → Prop) (size : List α → Nat) (least : Nat)
def cost (l : List α) (i : Nat) : Nat := max (size (l.take i)) (size (l.drop i))
def packF : Nat → List α → List (List α)
  | 0, _ => []
  | f + 1, l => if l.length = 0 then [] else if size l ≤ 505 then [l] else
      packF f (l.take (halves l.length least (cost size l))) ++ packF f (l.drop (halves l.length least (cost size l)))
/-- Enough elements to be divided. -/
def Dividable : Prop := 1 ≤ least ∧ ∀ l, (∀ a ∈ l, ok a) → 505 < size l → 2 * least ≤ l.length
variable {ok size least}
theorem packF_nil (f : Nat) : packF size least f [] = [] := by cases f <;> simp [packF]
theorem packF_fits {f : Nat} {l : List α} (h0 : l ≠ []) (h : size l ≤ 505) : packF size least (f + 1) l = [l] := by
  unfold packF
  rw [if_neg (by simpa using h0), if_pos h]
theorem packF_split {f : Nat} {l : List α} (h0 : l ≠ []) (h : ¬ size l ≤ 505) : packF size least (f + 1) l = packF size least f (l.take (halves l.length least (cost size l))) ++ packF size least f (l.drop (halves l.length least (cost size l))) := by
  rw [packF, if_neg (by simpa using h0), if_neg h]
theorem packF_flat (hd : Dividable ok size least) : ∀ (f : Nat) (l : List α), (∀ a ∈ l, ok a) → l.length ≤ f → (packF size least f l).flatten = l := by
  intro f
  induction f with
  | zero => intro l _ h; cases l with | nil => rfl | cons a l => simp at h
  | succ f ih =>
    intro l ho h
    by_cases h0 : l = []
    · subst h0; rw [packF_nil]; rfl
    · by_cases h1 : size l ≤ 505
      · rw [packF_fits h0 h1]; simp
      · have h2 := hd.2 l ho (by omega)
        have h3 := halves_le (cost := cost size l) h2
        have := hd.1
        rw [packF_split h0 h1, List.flatten_append, ih _ (fun a h => ho a (List.mem_of_mem_take h)) (by rw [List.length_take]; omega), ih _ (fun a h => ho a (List.mem_of_mem_drop h)) (by rw [List.length_drop]; omega), List.take_append_drop]
theorem packF_parts : ∀ (f : Nat) (l : List α), ∀ p ∈ packF size least f l, p ≠ [] ∧ size p ≤ 505 := by
  intro f
  induction f with
  | zero => intro l p h; cases h
  | succ f ih =>
    intro l p h
    by_cases h0 : l = []
    · subst h0; rw [packF_nil] at h; cases h
    · by_cases h1 : size l ≤ 505
      · rw [packF_fits h0 h1] at h; simp at h; subst h; exact ⟨h0, h1⟩
      · rw [packF_split h0 h1] at h
        rcases List.mem_append.1 h with h | h
        · exact ih _ p h
        · exact ih _ p h
theorem packF_least (hd : Dividable ok size least) : ∀ (f : Nat) (l : List α), (∀ a ∈ l, ok a) → least ≤ l.length → ∀ p ∈ packF size least f l, least ≤ p.length := by
  intro f
  induction f with
  | zero => intro l _ _ p h; cases h
  | succ f ih =>
    intro l ho hl p h
    by_cases h0 : l = []
    · subst h0; rw [packF_nil] at h; cases h
    · by_cases h1 : size l ≤ 505
      · rw [packF_fits h0 h1] at h; simp at h; subst h; exact hl
      · have h2 := hd.2 l ho (by omega)
        have h3 := halves_le (cost := cost size l) h2
        rw [packF_split h0 h1] at h
        rcases List.mem_append.1 h with h | h
        · exact ih _ (fun a h => ho a (List.mem_of_mem_take h)) (by rw [List.length_take]; omega) p h
        · exact ih _ (fun a h => ho a (List.mem_of_mem_drop h)) (by rw [List.length_drop]; omega) p h
theorem packF_len (hd : Dividable ok size least) : ∀ (f : Nat) (l : List α), (∀ a ∈ l, ok a) → (packF size least f l).length ≤ l.length := by
  intro f
  induction f with
  | zero => intro l _; exact Nat.zero_le _
  | succ f ih =>
    intro l ho
    by_cases h0 : l = []
    · subst h0; rw [packF_nil]; exact Nat.le_refl _
    · have := List.length_pos_iff.2 h0
      by_cases h1 : size l ≤ 505
      · rw [packF_fits h0 h1]; exact this
      · have h2 := hd.2 l ho (by omega)
        have h3 := halves_le (cost := cost size l) h2
        have h4 := hd.1
        rw [packF_split h0 h1, List.length_append]
        have a := ih (l.take (halves l.length least (cost size l))) fun a h => ho a (List.mem_of_mem_take h)
        have b := ih (l.drop (halves l.length least (cost size l))) fun a h => ho a (List.mem_of_mem_drop h)
        rw [List.length_take] at a
        rw [List.length_drop] at b
        omega
end

/-! ### entries and children -/
def itOk (p : It) : Prop := 1 ≤ p.1.length ∧ p.1.length ≤ 112 ∧ p.2.length ≤ 360
def kdOk (p : Kd) : Prop := p.1.length ≤ 112 ∧ p.2 < 2147483648
def sizeL (l : List It) : Nat := (leafB l).length
def sizeI (l : List Kd) : Nat := (innerB l).length
theorem itB_length (p : It) : (itB p).length = 3 + p.1.length + p.2.length := by simp [itB, be2]; omega
theorem kidB_length (p : Kd) : (kidB p).length = 5 + p.1.length := by simp [kidB, be4]; omega
theorem sizeL_cons (p : It) (l : List It) : sizeL (p :: l) = 3 + p.1.length + p.2.length + sizeL l := by simp [sizeL, leafB, itB_length]
theorem sizeL_append (l m : List It) : sizeL (l ++ m) = sizeL l + sizeL m := by simp [sizeL, leafB]
theorem sizeK_cons (p : Kd) (l : List Kd) : ((p :: l).flatMap kidB).length = 5 + p.1.length + (l.flatMap kidB).length := by simp [kidB_length]
theorem sizeI_cons (p : Kd) (l : List Kd) : sizeI (p :: l) = 4 + (l.flatMap kidB).length := by simp [sizeI, innerB, be4]; omega
theorem sizeK_le : ∀ {l : List Kd}, (∀ p ∈ l, kdOk p) → (l.flatMap kidB).length ≤ 117 * l.length := by
  intro l
  induction l with
  | nil => intro _; exact Nat.le_refl _
  | cons p l ih =>
    intro h
    have := ih fun q hq => h q (List.mem_cons_of_mem _ hq)
    have h1 := (h p (List.mem_cons_self ..)).1
    rw [sizeK_cons, List.length_cons]
    omega
theorem divL : Dividable itOk sizeL 1 := by
  refine ⟨Nat.le_refl _, fun l h hs => ?_⟩
  match l, h, hs with
  | [], _, hs => simp [sizeL, leafB] at hs
  | [p], h, hs =>
    have := h p (List.mem_cons_self ..)
    unfold itOk at this
    rw [sizeL_cons] at hs
    simp [sizeL, leafB] at hs
    omega
  | p :: q :: l, _, _ => simp
theorem divI : Dividable kdOk sizeI 2 := by
  refine ⟨by omega, fun l h hs => ?_⟩
  match l, h, hs with
  | [], _, hs => simp [sizeI, innerB] at hs
  | p :: l, h, hs =>
    have := sizeK_le fun q hq => h q (List.mem_cons_of_mem p hq)
    rw [sizeI_cons] at hs
    simp only [List.length_cons]
    omega
def packL (l : List It) : List (List It) := packF sizeL 1 l.length l
/-- A node that may stand in a block. -/
def NdOk : Nd → Prop
  | .leaf l => l ≠ [] ∧ (∀ p ∈ l, itOk p) ∧ l.Pairwise (fun a b => slt a.1 b.1 = true) ∧ sizeL l ≤ 505
  | .inner l => ∃ b t, l = ([], b) :: t ∧ t ≠ [] ∧ b < 2147483648 ∧ (∀ p ∈ t, p.1 ≠ [] ∧ kdOk p) ∧ t.Pairwise (fun a b => slt a.1 b.1 = true) ∧ sizeI l ≤ 505
theorem NdOk.fits {n : Nd} (h : NdOk n) : n.body.length ≤ 505 := by
  cases n with
  | leaf l => exact h.2.2.2
  | inner l => obtain ⟨b, t, _, _, _, _, _, h⟩ := h; exact h
theorem NdOk.count {n : Nd} (h : NdOk n) : n.count < 65536 := by
  cases n with
  | leaf l =>
    have : ∀ l : List It, (∀ p ∈ l, itOk p) → l.length ≤ sizeL l := by
      intro l
      induction l with
      | nil => intro _; exact Nat.zero_le _
      | cons p l ih =>
        intro h
        have := ih fun q hq => h q (List.mem_cons_of_mem _ hq)
        rw [sizeL_cons, List.length_cons]; omega
    have h1 := this l h.2.1
    have h2 := h.2.2.2
    show l.length < _
    omega
  | inner l =>
    have : ∀ l : List Kd, l.length ≤ (l.flatMap kidB).length := by
      intro l
      induction l with
      | nil => exact Nat.zero_le _
      | cons p l ih => rw [sizeK_cons, List.length_cons]; omega
    obtain ⟨b, t, rfl, _, _, _, _, h⟩ := h
    have h1 := this t
    rw [sizeI_cons] at h
    show (t.length + 1) < _
    omega
end Go.Proofs.YtbhladkbnleeoaaGreat

namespace Go.Proofs.YtbhladkbnleeoaaGreat

/-- A tree with h levels of inner nodes. A child: its key, its block, and the tree in it. -/
def Tr : Nat → Type
  | 0 => List It
  | h + 1 => List (Bs × Nat × Tr h)
def ent : (h : Nat) → Tr h → List It
  | 0, l => (l : List It)
  | h + 1, l => (l : List (Bs × Nat × Tr h)).flatMap fun p => ent h p.2.2
def bks : (h : Nat) → Tr h → List Nat
  | 0, _ => []
  | h + 1, l => (l : List (Bs × Nat × Tr h)).flatMap fun p => p.2.1 :: bks h p.2.2
abbrev Kt (h : Nat) := Bs × Nat × Tr h
def kdp {h : Nat} (p : Kt h) : Kd := (p.1, p.2.1)
def nd : (h : Nat) → Tr h → Nd
  | 0, l => .leaf l
  | h + 1, l => .inner ((l : List (Kt h)).map kdp)
def fk : (h : Nat) → Tr h → Bs
  | 0, l => ((l : List It).head?.map (·.1)).getD []
  | h + 1, l => ((l : List (Kt h)).head?.map (·.1)).getD []
abbrev sorted (l : List It) : Prop := l.Pairwise fun a b => slt a.1 b.1 = true
/-- Two children in order: the second's key divides them. -/
def Rk {h : Nat} (p q : Kt h) : Prop := (∀ e ∈ ent h p.2.2, slt e.1 q.1 = true) ∧ (∀ e ∈ ent h q.2.2, slt e.1 q.1 = false)
def OkL (l : List It) : Prop := l ≠ [] ∧ (∀ p ∈ l, itOk p) ∧ sorted l ∧ sizeL l ≤ 505
def OkK {h : Nat} (P : Tr h → Prop) (l : List (Kt h)) : Prop := 2 ≤ l.length ∧ l.Pairwise Rk ∧ (∀ p ∈ l, P p.2.2 ∧ kdOk (kdp p)) ∧ sizeI (l.map kdp) ≤ 505
def Ok : (h : Nat) → Tr h → Prop
  | 0, l => OkL l
  | h + 1, l => OkK (Ok h) l
theorem Ok.ne : ∀ {h : Nat} {t : Tr h}, Ok h t → ent h t ≠ [] := by
  intro h
  induction h with
  | zero => intro t ht; exact ht.1
  | succ h ih =>
    intro t ht
    obtain ⟨h1, _, h3, _⟩ := ht
    match t, h1, h3 with
    | p :: l, _, h3 =>
      have := ih (h3 p (List.mem_cons_self ..)).1
      intro e
      have e2 : ent h p.2.2 ++ List.flatMap (fun p : Kt h => ent h p.2.2) l = [] := e
      exact this (List.append_eq_nil_iff.1 e2).1
theorem Ok.items : ∀ {h : Nat} {t : Tr h}, Ok h t → ∀ e ∈ ent h t, itOk e := by
  intro h
  induction h with
  | zero => intro t ht; exact ht.2.1
  | succ h ih =>
    intro t ht e he
    obtain ⟨p, hp, he⟩ := List.mem_flatMap.1 (he : e ∈ List.flatMap (fun p : Kt h => ent h p.2.2) t)
    exact ih (ht.2.2.1 p hp).1 e he
/-- A tree of height h + 1 has at least 2 to the h entries. -/
theorem Ok.many : ∀ {h : Nat} {t : Tr h}, Ok h t → 2 ^ h ≤ (ent h t).length := by
  intro h
  induction h with
  | zero => intro t ht; exact List.length_pos_iff.2 ht.1
  | succ h ih =>
    intro t ht
    obtain ⟨h1, _, h3, _⟩ := ht
    match t, h1, h3 with
    | p :: q :: l, _, h3 =>
      have a := ih (h3 p (List.mem_cons_self ..)).1
      have b := ih (h3 q (List.mem_cons_of_mem _ (List.mem_cons_self ..))).1
      have e : (ent (h + 1) (p :: q :: l : List (Kt h))).length = (ent h p.2.2).length + ((ent h q.2.2).length + (List.flatMap (fun p : Kt h => ent h p.2.2) l).length) := by
        show (List.flatMap (fun p : Kt h => ent h p.2.2) (p :: q :: l)).length = _
        simp only [List.flatMap_cons, List.length_append]
      rw [e, Nat.pow_succ]
      omega
/-- The blocks below a node, and it: less than twice its entries. -/
theorem Ok.few : ∀ {h : Nat} {t : Tr h}, Ok h t → (bks h t).length + 2 ≤ 2 * (ent h t).length := by
  intro h
  induction h with
  | zero => intro t ht; have := List.length_pos_iff.2 ht.1; show 0 + 2 ≤ 2 * (List.length t); omega
  | succ h ih =>
    intro t ht
    obtain ⟨h1, _, h3, _⟩ := ht
    have hgo : ∀ l : List (Kt h), (∀ p ∈ l, Ok h p.2.2 ∧ kdOk (kdp p)) → (l.flatMap fun p => p.2.1 :: bks h p.2.2).length + l.length ≤ 2 * (l.flatMap fun p => ent h p.2.2).length := by
      intro l
      induction l with
      | nil => intro _; exact Nat.le_refl _
      | cons p l ihl =>
        intro h3
        have a := ih (h3 p (List.mem_cons_self ..)).1
        have b := ihl fun q hq => h3 q (List.mem_cons_of_mem _ hq)
        simp only [List.flatMap_cons, List.length_append, List.length_cons]
        omega
    have := hgo t h3
    show (List.flatMap (fun p : Kt h => p.2.1 :: bks h p.2.2) t).length + 2 ≤ 2 * (List.flatMap (fun p : Kt h => ent h p.2.2) t).length
    omega

/-- A node as it is read again: the first child has no key. -/
def norm : Nd → Nd
  | .leaf l => .leaf l
  | .inner [] => .inner []
  | .inner (p :: l) => .inner (([], p.2) :: l)
theorem ndEnc_norm (n : Nd) : ndEnc (norm n) = ndEnc n := by
  match n with
  | .leaf l => rfl
  | .inner [] => rfl
  | .inner (p :: l) => rfl
theorem slt_of_le {a b c : Bs} (h1 : slt a b = true) (h2 : slt c b = false) : slt a c = true := by
  cases h : slt a c
  · cases h3 : slt c a
    · have := slt_total h h3
      rw [this] at h1; rw [h1] at h2; cases h2
    · have := slt_trans h3 h1
      rw [this] at h2; cases h2
  · rfl
theorem lt_of_le_lt {a b c : Bs} (h1 : slt b a = false) (h2 : slt b c = true) : slt a c = true ∨ slt a c = true := by
  left
  cases h : slt a c
  · exact absurd (slt_of_le h2 h) (by rw [h1]; simp)
  · rfl
theorem not_lt_trans {a b c : Bs} (h1 : slt a b = false) (h2 : slt b c = false) : slt a c = false := by
  cases h : slt a c
  · rfl
  · have := slt_of_le h h2
    rw [this] at h1; cases h1

/-- The child to which a key belongs. -/
def childF {α : Type} (l : List (Bs × α)) (key : Bs) : Nat := (l.tail.takeWhile fun q => !slt key q.1).length
theorem child_cons {α : Type} (p q : Bs × α) (l : List (Bs × α)) (key : Bs) : childF (p :: q :: l) key = if slt key q.1 = true then 0 else childF (q :: l) key + 1 := by
  simp only [childF, List.tail_cons, List.takeWhile_cons]
  cases slt key q.1 <;> simp
theorem rk_up {h : Nat} {q r : Kt h} {key : Bs} (hr : Rk q r) (hn : ent h q.2.2 ≠ []) (hk : slt key q.1 = true) (hq : ∀ e ∈ ent h q.2.2, slt e.1 q.1 = false) : slt key r.1 = true := by
  obtain ⟨e, he⟩ := List.exists_mem_of_ne_nil _ hn
  have a := hr.1 e he
  have b := hq e he
  exact slt_trans (slt_of_le hk b) a
theorem child_split {h : Nat} {key : Bs} : ∀ {l : List (Kt h)}, l ≠ [] → l.Pairwise Rk → (∀ p ∈ l, ent h p.2.2 ≠ []) →
    ∃ A c B, l = A ++ c :: B ∧ A.length = childF l key ∧ (∀ e ∈ A.flatMap fun p => ent h p.2.2, slt e.1 key = true) ∧ (∀ e ∈ B.flatMap fun p => ent h p.2.2, slt key e.1 = true) ∧ (A ≠ [] → slt key c.1 = false) ∧ (∀ q ∈ B, slt key q.1 = true) := by
  intro l
  induction l with
  | nil => intro h0; exact absurd rfl h0
  | cons p t ih =>
    intro _ hp hn
    cases t with
    | nil => exact ⟨[], p, [], rfl, rfl, by simp, by simp, fun h => absurd rfl h, by simp⟩
    | cons q t =>
      obtain ⟨h1, h2⟩ := List.pairwise_cons.1 hp
      obtain ⟨h3, h4⟩ := List.pairwise_cons.1 h2
      have hpq := h1 q (List.mem_cons_self ..)
      by_cases hk : slt key q.1 = true
      · have hup : ∀ r ∈ q :: t, slt key r.1 = true := fun r hr => by
          rcases List.mem_cons.1 hr with rfl | hr
          · exact hk
          · exact rk_up (h3 r hr) (hn q (by simp)) hk hpq.2
        refine ⟨[], p, q :: t, rfl, by rw [child_cons, if_pos hk]; rfl, by simp, fun e he => ?_, fun h => absurd rfl h, hup⟩
        obtain ⟨r, hr, he⟩ := List.mem_flatMap.1 he
        have := (h1 r hr).2 e he
        exact slt_of_le (hup r hr) this
      · have hk' : slt key q.1 = false := by simpa using hk
        obtain ⟨A, c, B, e1, e2, e3, e4, e5, e6⟩ := ih (by simp) h2 fun r hr => hn r (List.mem_cons_of_mem _ hr)
        refine ⟨p :: A, c, B, by rw [e1]; rfl, by rw [child_cons, if_neg hk, List.length_cons, e2], fun e he => ?_, e4, fun _ => ?_, e6⟩
        · rw [List.flatMap_cons] at he
          rcases List.mem_append.1 he with he | he
          · exact slt_of_le (hpq.1 e he) hk'
          · exact e3 e he
        · by_cases hA : A = []
          · subst hA
            have : c = q := by simp at e1; exact e1.1.symm
            rw [this]; exact hk'
          · exact e5 hA

/-! ### entries -/
def findF (l : List It) (key : Bs) : Nat := (l.takeWhile fun p => slt p.1 key).length
def hasF (l : List It) (key : Bs) : Bool := decide ((l[findF l key]?).map (·.1) = some key)
/-- The place of a key is filled with other entries. -/
def edS (mk : List It) (key : Bs) (l : List It) : List It := l.take (findF l key) ++ mk ++ l.drop (findF l key + if hasF l key then 1 else 0)
theorem find_cons (p : It) (l : List It) (key : Bs) : findF (p :: l) key = if slt p.1 key = true then findF l key + 1 else 0 := by
  simp only [findF, List.takeWhile_cons]
  cases slt p.1 key <;> simp
theorem find_left {A : List It} {key : Bs} (h : ∀ a ∈ A, slt a.1 key = true) (l : List It) : findF (A ++ l) key = A.length + findF l key := by
  induction A with
  | nil => simp
  | cons a A ih =>
    rw [List.cons_append, find_cons, if_pos (h a (List.mem_cons_self ..)), ih fun b hb => h b (List.mem_cons_of_mem _ hb), List.length_cons]
    omega
theorem find_le (l : List It) (key : Bs) : findF l key ≤ l.length := by unfold findF; exact (List.takeWhile_sublist _).length_le
theorem find_right {B : List It} {key : Bs} (h : ∀ b ∈ B, slt key b.1 = true) (l : List It) : findF (l ++ B) key = findF l key := by
  induction l with
  | nil =>
    cases B with
    | nil => rfl
    | cons b B =>
      have := slt_asymm (h b (List.mem_cons_self ..))
      rw [List.nil_append, find_cons, this]; rfl
  | cons a l ih => rw [List.cons_append, find_cons, find_cons, ih]
theorem has_left {A : List It} {key : Bs} (h : ∀ a ∈ A, slt a.1 key = true) (l : List It) : hasF (A ++ l) key = hasF l key := by
  unfold hasF
  rw [find_left h, List.getElem?_append_right (by omega)]
  simp
theorem has_right {B : List It} {key : Bs} (h : ∀ b ∈ B, slt key b.1 = true) (l : List It) : hasF (l ++ B) key = hasF l key := by
  unfold hasF
  rw [find_right h]
  by_cases hl : findF l key < l.length
  · rw [List.getElem?_append_left hl]
  · have e := find_le l key
    rw [List.getElem?_append_right (by omega), List.getElem?_eq_none (l := l) (by omega)]
    cases B with
    | nil => simp
    | cons b B =>
      have h1 := slt_ne (h b (List.mem_cons_self ..))
      rw [show findF l key - l.length = 0 by omega]
      simp
      exact fun e => h1 e.symm
theorem edS_mid {A L B : List It} {mk : List It} {key : Bs} (h1 : ∀ a ∈ A, slt a.1 key = true) (h2 : ∀ b ∈ B, slt key b.1 = true) : edS mk key (A ++ L ++ B) = A ++ edS mk key L ++ B := by
  unfold edS
  rw [has_right h2, has_left h1, find_right h2, find_left h1]
  have hl := find_le L key
  have hd : findF L key + (if hasF L key = true then 1 else 0) ≤ L.length := by
    split
    · rename_i hh
      unfold hasF at hh
      have hh := of_decide_eq_true hh
      have : findF L key < L.length := by
        by_cases hx : findF L key < L.length
        · exact hx
        · rw [List.getElem?_eq_none (by omega)] at hh; cases hh
      omega
    · omega
  rw [List.append_assoc A L B, List.take_length_add_append, List.take_append_of_le_length hl, Nat.add_assoc, List.drop_length_add_append, List.drop_append_of_le_length hd]
  simp only [List.append_assoc]
theorem edS_mem {mk l : List It} {key : Bs} {e : It} (h : e ∈ edS mk key l) : e ∈ mk ∨ e ∈ l := by
  unfold edS at h
  rcases List.mem_append.1 h with h | h
  · rcases List.mem_append.1 h with h | h
    · exact .inr (List.mem_of_mem_take h)
    · exact .inl h
  · exact .inr (List.mem_of_mem_drop h)
/-- A sorted list is divided by a key. -/
theorem find_split {l : List It} {key : Bs} (hs : sorted l) : (∀ e ∈ l.take (findF l key), slt e.1 key = true) ∧ (∀ e ∈ l.drop (findF l key + if hasF l key then 1 else 0), slt key e.1 = true) := by
  induction l with
  | nil => simp
  | cons p l ih =>
    obtain ⟨h1, h2⟩ := List.pairwise_cons.1 hs
    have ih := ih h2
    by_cases hp : slt p.1 key = true
    · have e1 : findF (p :: l) key = findF l key + 1 := by rw [find_cons, if_pos hp]
      have e2 : hasF (p :: l) key = hasF l key := has_left (A := [p]) (by simpa using hp) l
      rw [e1, e2, List.take_succ_cons, Nat.add_right_comm, List.drop_succ_cons]
      refine ⟨fun e he => ?_, ih.2⟩
      rcases List.mem_cons.1 he with rfl | he
      · exact hp
      · exact ih.1 e he
    · have e1 : findF (p :: l) key = 0 := by rw [find_cons, if_neg hp]
      have hp' : slt p.1 key = false := by simpa using hp
      refine ⟨by rw [e1]; simp, fun e he => ?_⟩
      rw [e1] at he
      by_cases hk : p.1 = key
      · have e2 : hasF (p :: l) key = true := by unfold hasF; rw [e1]; simp [hk]
        rw [e2] at he
        rw [← hk]
        exact h1 e (by simpa using he)
      · have e2 : hasF (p :: l) key = false := by unfold hasF; rw [e1]; simp [hk]
        rw [e2] at he
        have h3 : slt key p.1 = true := by
          cases hx : slt key p.1
          · exact absurd (slt_total hp' hx) hk
          · rfl
        simp at he
        rcases he with rfl | he
        · exact h3
        · exact slt_trans h3 (h1 e he)
theorem edS_sorted {mk l : List It} {key : Bs} (hs : sorted l) (hm : ∀ e ∈ mk, e.1 = key) (hm1 : mk.length ≤ 1) : sorted (edS mk key l) := by
  obtain ⟨h1, h2⟩ := find_split (key := key) hs
  unfold edS
  rw [List.append_assoc]
  have hmk : sorted mk := by
    match mk, hm1 with
    | [], _ => exact List.Pairwise.nil
    | [a], _ => exact List.pairwise_singleton _ _
  refine List.pairwise_append.2 ⟨List.Pairwise.sublist (List.take_sublist _ _) hs, List.pairwise_append.2 ⟨hmk, List.Pairwise.sublist (List.drop_sublist _ _) hs, fun a ha b hb => by rw [hm a ha]; exact h2 b hb⟩, fun a ha b hb => ?_⟩
  rcases List.mem_append.1 hb with hb | hb
  · rw [hm b hb]; exact h1 a ha
  · exact slt_trans (h1 a ha) (h2 b hb)
theorem fld_64_0 : Fld Tryz.prog 64 0 0 := fun a w => by kernel_rfl
theorem fld_64_1 : Fld Tryz.prog 64 1 1 := fun a w => by kernel_rfl
theorem fld_68_0 : Fld Tryz.prog 68 0 0 := fun a w => by kernel_rfl
theorem fld_91_0 : Fld Tryz.prog 91 0 0 := fun a w => by kernel_rfl
theorem fld_91_1 : Fld Tryz.prog 91 1 1 := fun a w => by kernel_rfl
theorem fld_106_0 : Fld Tryz.prog 106 0 0 := fun a w => by kernel_rfl
theorem fld_106_1 : Fld Tryz.prog 106 1 1 := fun a w => by kernel_rfl
theorem fld_106_2 : Fld Tryz.prog 106 2 2 := fun a w => by kernel_rfl
theorem fld_106_3 : Fld Tryz.prog 106 3 3 := fun a w => by kernel_rfl
theorem fld_106_4 : Fld Tryz.prog 106 4 4 := fun a w => by kernel_rfl
theorem fld_106_5 : Fld Tryz.prog 106 5 5 := fun a w => by kernel_rfl
theorem fld_111_0 : Fld Tryz.prog 111 0 0 := fun a w => by kernel_rfl
theorem fld_111_1 : Fld Tryz.prog 111 1 1 := fun a w => by kernel_rfl
theorem fld_124_0 : Fld Tryz.prog 124 0 0 := fun a w => by kernel_rfl
theorem fld_124_1 : Fld Tryz.prog 124 1 1 := fun a w => by kernel_rfl
theorem fld_152_0 : Fld Tryz.prog 152 0 0 := fun a w => by kernel_rfl
theorem fld_152_1 : Fld Tryz.prog 152 1 1 := fun a w => by kernel_rfl
theorem bld_64 : Bld Tryz.prog 64 [.string ⟨#[]⟩, .string ⟨#[]⟩] [(0, 1), (1, 1)] := Bld.mk Tryz.zeroValue64 rfl Tryz.runUnderlying64 (fun w => by kernel_rfl)
theorem bld_91 : Bld Tryz.prog 91 [.string ⟨#[]⟩, .int .i64 0] [(0, 1), (1, 1)] := Bld.mk Tryz.zeroValue91 rfl Tryz.runUnderlying91 (fun w => by kernel_rfl)
theorem bld_106 : Bld Tryz.prog 106 [.int .i64 0, .map none, .slice none 0 0, .int .i64 0, .int .i64 0, .bool false] [(0, 1), (1, 1), (2, 1), (3, 1), (4, 1), (5, 1)] := Bld.mk Tryz.zeroValue106 rfl Tryz.runUnderlying106 (fun w => by kernel_rfl)
theorem bld_124 : Bld Tryz.prog 124 [.int .i64 0, .slice none 0 0] [(0, 1), (1, 1)] := Bld.mk Tryz.zeroValue124 rfl Tryz.runUnderlying124 (fun w => by kernel_rfl)
theorem bld_152 : Bld Tryz.prog 152 [.slice none 0 0, .bool false] [(0, 1), (1, 1)] := Bld.mk Tryz.zeroValue152 rfl Tryz.runUnderlying152 (fun w => by kernel_rfl)
theorem elt_34 : Elt Tryz.prog 34 3 1 8 ([.int .i64 0]) := Elt.mk' Tryz.underlying34 (i := Tryz.t3) (v := .int .i64 0) (by kernel_rfl) (by kernel_rfl) (by kernel_rfl) (by kernel_rfl) (by kernel_rfl) (by simp) (by decide)
theorem elt_85 : Elt Tryz.prog 85 64 2 32 ([.string ⟨#[]⟩, .string ⟨#[]⟩]) := Elt.mk' Tryz.underlying85 (i := Tryz.t64) (v := .agg ([.string ⟨#[]⟩, .string ⟨#[]⟩] : List Value).toArray) (by kernel_rfl) (by kernel_rfl) (by kernel_rfl) (by kernel_rfl) (by kernel_rfl) (by simp) (by decide)
theorem elt_89 : Elt Tryz.prog 89 91 2 24 ([.string ⟨#[]⟩] ++ [.int .i64 0]) := Elt.mk' Tryz.underlying89 (i := Tryz.t91) (v := .agg ([.string ⟨#[]⟩] ++ [.int .i64 0] : List Value).toArray) (by kernel_rfl) (by kernel_rfl) (by kernel_rfl) (by kernel_rfl) (by kernel_rfl) (by simp) (by decide)
theorem elt_122 : Elt Tryz.prog 122 5 1 1 ([.int .u8 0]) := Elt.mk' Tryz.underlying122 (i := Tryz.t5) (v := .int .u8 0) (by kernel_rfl) (by kernel_rfl) (by kernel_rfl) (by kernel_rfl) (by kernel_rfl) (by simp) (by decide)
theorem elt_132 : Elt Tryz.prog 132 76 1 16 ([.nilIface]) := Elt.mk' Tryz.underlying132 (i := Tryz.t76) (v := .nilIface) (by kernel_rfl) (by kernel_rfl) (by kernel_rfl) (by kernel_rfl) (by kernel_rfl) (by simp) (by decide)
theorem mixed : Tryz.prog.follows .mixedOrders = true := by kernel_rfl
@[irreducible] def zb : List UInt8 := List.replicate 512 0
theorem bv_zb : bv zb = List.replicate 512 (.int .u8 0) := by
  unfold bv zb
  exact List.map_replicate
@[simp] theorem zb_length : zb.length = 512 := by unfold zb; exact List.length_replicate

theorem zero0 : ∀ w, (zeroValue 108).run Tryz.prog w = .ok (.agg (bv zb).toArray) w := by
  rw [bv_zb]
  intro w
  kernel_rfl
theorem zeroP : ∀ w, (zeroValue 111).run Tryz.prog w = .ok (.agg (.int .i64 0 :: bv zb).toArray) w := by
  rw [bv_zb]
  intro w
  kernel_rfl
/-- A device: its blocks, what is durable, the writes under way, the operations, the limit, and whether the power has failed. -/
structure Dk where
  n : Nat
  dur : Nat → List UInt8
  pend : List (Nat × List UInt8)
  ops : Nat
  lim : Int
  down : Bool

structure Dk.wf (D : Dk) : Prop where
  n1 : 1 ≤ D.n
  n2 : D.n ≤ 8192
  dur : ∀ i, (D.dur i).length = 512
  pend : ∀ p ∈ D.pend, p.1 < D.n ∧ p.2.length = 512
  plen : D.pend.length ≤ 1048576
  ops : D.ops ≤ 1099511627776
  lim1 : -1 ≤ D.lim
  lim2 : D.lim ≤ 9223372036854775807

/-- The entries of the map of durable blocks. -/
def DurOk (n : Nat) (dur : Nat → List UInt8) (mp : List (Int × Value)) : Prop :=
  KeysOk mp ∧ ∀ k : Int, mget mp k = if 0 ≤ k ∧ k.toNat < n ∧ dur k.toNat ≠ zb then some (.agg (bv (dur k.toNat)).toArray) else none

def pcell (p : Nat × List UInt8) : List Value := .int .i64 (p.1 : Int) :: bv p.2
abbrev DX := Nat × List (Int × Value) × Option Addr × Nat
def dparts (d : Nat) (D : Dk) (x : DX) : List Assn :=
  [pts d (.cells [.int .i64 D.n, .map (some x.1), .slice x.2.2.1 D.pend.length x.2.2.2, .int .i64 D.ops, .int .i64 D.lim, .bool D.down].toArray 106), imap x.1 x.2.1, row x.2.2.1 x.2.2.2 111 513 (D.pend.map pcell)]

/-- The block d is a device in the state D. -/
@[irreducible] def dk (d : Nat) (D : Dk) : Assn := fun h => ∃ x : DX, (D.wf ∧ DurOk D.n D.dur x.2.1) ∧ Stars (dparts d D x) h

theorem dk_open {d : Nat} {D : Dk} (h : Frag) (a : dk d D h) : ∃ x : DX, (D.wf ∧ DurOk D.n D.dur x.2.1) ∧ Stars (dparts d D x) h := by
  unfold dk at a; exact a

theorem dk_shut {d : Nat} {D : Dk} {m : Nat} {mp : List (Int × Value)} {a : Option Addr} {cap : Nat} {l : List Assn} (hw : D.wf) (hd : DurOk D.n D.dur mp) {h : Frag}
    (s : Stars (pts d (.cells [.int .i64 D.n, .map (some m), .slice a D.pend.length cap, .int .i64 D.ops, .int .i64 D.lim, .bool D.down].toArray 106) :: imap m mp :: row a cap 111 513 (D.pend.map pcell) :: l) h) : Stars (dk d D :: l) h :=
  Stars.shut (L := dparts d D (m, mp, a, cap)) (fun h t => by unfold dk; exact ⟨_, ⟨hw, hd⟩, t⟩) s

/-- What is visible of a block, when z is durable. -/
def visL (i : Nat) : List UInt8 → List (Nat × List UInt8) → List UInt8
  | z, [] => z
  | z, p :: l => visL i (if p.1 = i then p.2 else z) l
@[simp] theorem visL_nil (i : Nat) (z : List UInt8) : visL i z [] = z := rfl
theorem visL_append (i : Nat) : ∀ (l m : List (Nat × List UInt8)) (z : List UInt8), visL i z (l ++ m) = visL i (visL i z l) m := by
  intro l
  induction l with
  | nil => intro m z; rfl
  | cons p l ih => intro m z; exact ih m _
theorem visL_skip (i : Nat) : ∀ (l : List (Nat × List UInt8)) (z : List UInt8), (∀ p ∈ l, p.1 ≠ i) → visL i z l = z := by
  intro l
  induction l with
  | nil => intro z _; rfl
  | cons p l ih =>
    intro z h
    show visL i (if p.1 = i then p.2 else z) l = z
    rw [if_neg (h p (List.mem_cons_self ..))]
    exact ih z fun q hq => h q (List.mem_cons_of_mem _ hq)
def Dk.vis (D : Dk) (i : Nat) : List UInt8 := visL i (D.dur i) D.pend

theorem drop_step {α : Type} {l : List α} {k : Nat} {p : α} (hk : k < l.length) (h : l[l.length - 1 - k]? = some p) : l.drop (l.length - (k + 1)) = p :: l.drop (l.length - k) := by
  have h1 : l.length - (k + 1) < l.length := by omega
  rw [List.drop_eq_getElem_cons h1]
  have e : l.length - 1 - k = l.length - (k + 1) := by omega
  rw [e, List.getElem?_eq_getElem h1] at h
  have h2 : l[l.length - (k + 1)] = p := Option.some.inj h
  rw [h2]
  congr 2
  omega
theorem Dk.vis_hit {D : Dk} {i k : Nat} {p : Nat × List UInt8} (hk : k < D.pend.length) (hp : D.pend[D.pend.length - 1 - k]? = some p) (hno : ∀ q ∈ D.pend.drop (D.pend.length - k), q.1 ≠ i) (h : p.1 = i) : D.vis i = p.2 := by
  unfold Dk.vis
  rw [← List.take_append_drop (D.pend.length - (k + 1)) D.pend, visL_append, drop_step hk hp]
  show visL i (if p.1 = i then p.2 else _) _ = p.2
  rw [if_pos h]
  exact visL_skip i _ _ hno
theorem Dk.vis_none {D : Dk} {i : Nat} (hno : ∀ q ∈ D.pend, q.1 ≠ i) : D.vis i = D.dur i := visL_skip i _ _ hno
theorem visL_length (i : Nat) : ∀ (l : List (Nat × List UInt8)) (z : List UInt8), z.length = 512 → (∀ p ∈ l, p.2.length = 512) → (visL i z l).length = 512 := by
  intro l
  induction l with
  | nil => intro z h _; exact h
  | cons p l ih =>
    intro z h hp
    refine ih _ ?_ fun q hq => hp q (List.mem_cons_of_mem _ hq)
    split
    · exact hp p (List.mem_cons_self ..)
    · exact h
theorem Dk.wf.vis {D : Dk} (h : D.wf) (i : Nat) : (D.vis i).length = 512 := visL_length i _ _ (h.dur i) fun p hp => (h.pend p hp).2
theorem dur_get {n : Nat} {dur : Nat → List UInt8} {mp : List (Int × Value)} (hd : DurOk n dur mp) {i : Nat} (hi : i < n) : (mget mp (i : Int)).getD (.agg (bv zb).toArray) = .agg (bv (dur i)).toArray := by
  rw [hd.2]
  by_cases h : dur i = zb
  · rw [if_neg (by simp [h]), h]; rfl
  · rw [if_pos ⟨by omega, by simpa using hi, by simpa using h⟩]; rfl

/-! ### what the operations do -/
/-- The error with which a block cannot be reached. -/
def reachC (D : Dk) (i : Int) : Int := if D.down then 29 else if i < 0 ∨ (D.n : Int) ≤ i then 8 else 0
def Dk.operated (D : Dk) : Dk := if D.lim = 0 then { D with down := true } else { D with lim := max (D.lim - 1) (-1), ops := D.ops + 1 }
def operC (D : Dk) : Int := if D.lim = 0 then 29 else 0

theorem Dk.wf.operated {D : Dk} (h : D.wf) (ho : D.ops < 1099511627776) : D.operated.wf := by
  unfold Dk.operated
  have := h.lim1
  have := h.lim2
  have := h.ops
  split
  · exact ⟨h.n1, h.n2, h.dur, h.pend, h.plen, h.ops, h.lim1, h.lim2⟩
  · exact ⟨h.n1, h.n2, h.dur, h.pend, h.plen, by show D.ops + 1 ≤ _; omega, by show -1 ≤ max (D.lim - 1) (-1); omega, by show max (D.lim - 1) (-1) ≤ _; omega⟩

theorem oper_shut1 {d : Nat} {D : Dk} {m : Nat} {mp : List (Int × Value)} {a : Option Addr} {cap : Nat} {l : List Assn} (hw : D.wf) (hd : DurOk D.n D.dur mp) (hl : D.lim = 0) {h : Frag}
    (s : Stars (pts d (.cells [.int .i64 D.n, .map (some m), .slice a D.pend.length cap, .int .i64 D.ops, .int .i64 D.lim, .bool true].toArray 106) :: imap m mp :: row a cap 111 513 (D.pend.map pcell) :: l) h) : Stars (dk d D.operated :: l) h := by
  have e : D.operated = { D with down := true } := by simp [Dk.operated, hl]
  rw [e]
  exact dk_shut (D := { D with down := true }) ⟨hw.n1, hw.n2, hw.dur, hw.pend, hw.plen, hw.ops, hw.lim1, hw.lim2⟩ hd s
theorem oper_shut2 {d : Nat} {D : Dk} {m : Nat} {mp : List (Int × Value)} {a : Option Addr} {cap : Nat} {l : List Assn} (hw : D.wf) (hd : DurOk D.n D.dur mp) (ho : D.ops < 1099511627776) (hl : ¬ D.lim = 0) {h : Frag}
    (s : Stars (pts d (.cells [.int .i64 D.n, .map (some m), .slice a D.pend.length cap, .int .i64 ((D.ops : Int) + 1), .int .i64 (max (D.lim - 1) (-1)), .bool D.down].toArray 106) :: imap m mp :: row a cap 111 513 (D.pend.map pcell) :: l) h) : Stars (dk d D.operated :: l) h := by
  have hw' := hw.operated ho
  have e : D.operated = { D with lim := max (D.lim - 1) (-1), ops := D.ops + 1 } := by simp [Dk.operated, hl]
  rw [e] at hw' ⊢
  exact dk_shut (D := { D with lim := max (D.lim - 1) (-1), ops := D.ops + 1 }) hw' hd s

/-- A new device. -/
def newD (n : Nat) : Dk := ⟨n, fun _ => zb, [], 0, -1, false⟩
def newV (n : Int) (b : Nat) : Value := if 1 ≤ n ∧ n ≤ 8192 then .tuple #[.pointer (some ⟨b, 0, none⟩), .int .i64 0] else .tuple #[.pointer none, .int .i64 2]
theorem newD_wf {n : Nat} (h1 : 1 ≤ n) (h2 : n ≤ 8192) : (newD n).wf := ⟨h1, h2, fun _ => zb_length, (by intro p hp; cases hp), (by simp [newD]), (by simp [newD]), (by simp [newD]), (by simp [newD])⟩
theorem new_shut {b m : Nat} {n : Int} (h1 : 1 ≤ n) (h2 : n ≤ 8192) {h : Frag}
    (s : Stars [pts b (.cells [.int .i64 n, .map (some m), .slice none 0 0, .int .i64 0, .int .i64 (-1), .bool false].toArray 106), pts m (.map #[] 0)] h) : Stars [dk b (newD n.toNat)] h := by
  have hn : ((n.toNat : Nat) : Int) = n := by omega
  have s1 := imap_new m (Stars.swap s)
  have s2 := row_nil 111 513 s1
  refine dk_shut (D := newD n.toNat) (m := m) (mp := []) (a := none) (cap := 0) (newD_wf (by omega) (by omega)) ⟨by simp [KeysOk], fun k => ?_⟩ ?_
  · rw [if_neg]
    · rfl
    · rintro ⟨_, _, h3⟩
      exact h3 rfl
  · simp only [newD, List.length_nil, List.map_nil]
    rw [hn]
    refine Stars.perm ?_ s2
    exact (List.reverse_perm _).symm
theorem dk_wf {d : Nat} {D : Dk} {l : List Assn} {h : Frag} (s : Stars (dk d D :: l) h) : D.wf := by
  obtain ⟨h1, h2, p, _⟩ := s
  obtain ⟨x, hw, _⟩ := dk_open h1 p
  exact hw.1
theorem reach_zero {D : Dk} {i : Int} (h : reachC D i = 0) : D.down = false ∧ 0 ≤ i ∧ i < D.n := by
  unfold reachC at h
  split at h
  · cases h
  · rename_i hd
    split at h
    · cases h
    · rename_i hi
      exact ⟨by simpa using hd, by omega, by omega⟩
/-- What Read returns. -/
def readB (D : Dk) (i : Int) : List UInt8 := if reachC D i = 0 then D.vis i.toNat else []
/-- Write. -/
def writeC (D : Dk) (i : Int) (n : Nat) : Int := if reachC D i ≠ 0 then reachC D i else if n ≠ 512 then 2 else operC D
def Dk.wrote (D : Dk) (i : Nat) (s : List UInt8) : Dk := { D with pend := D.pend ++ [(i, s)] }
def writeD (D : Dk) (i : Int) (s : List UInt8) : Dk :=
  if reachC D i ≠ 0 then D else if s.length ≠ 512 then D else if operC D ≠ 0 then D.operated else D.operated.wrote i.toNat s
@[simp] theorem operated_pend (D : Dk) : D.operated.pend = D.pend := by unfold Dk.operated; split <;> rfl
@[simp] theorem operated_n (D : Dk) : D.operated.n = D.n := by unfold Dk.operated; split <;> rfl
@[simp] theorem operated_dur (D : Dk) : D.operated.dur = D.dur := by unfold Dk.operated; split <;> rfl
theorem Dk.wf.wrote {D : Dk} (h : D.wf) {i : Nat} {s : List UInt8} (hi : i < D.n) (hs : s.length = 512) (hp : D.pend.length < 1048576) : (D.wrote i s).wf :=
  ⟨h.n1, h.n2, h.dur, by
    intro p hp
    rcases List.mem_append.1 hp with hp | hp
    · exact h.pend p hp
    · simp at hp; subst hp; exact ⟨hi, hs⟩, by show (D.pend ++ [(i, s)]).length ≤ _; simp; omega, h.ops, h.lim1, h.lim2⟩
theorem write_shut {d i m : Nat} {E : Dk} {s : List UInt8} {mp : List (Int × Value)} {a : Option Addr} {cap : Nat} {l : List Assn} (hw : E.wf) (hd : DurOk E.n E.dur mp) (hi : i < E.n) (hs : s.length = 512) (hp : E.pend.length < 1048576) {h : Frag}
    (st : Stars (pts d (.cells [.int .i64 E.n, .map (some m), .slice a (E.pend.length + 1) cap, .int .i64 E.ops, .int .i64 E.lim, .bool E.down].toArray 106) :: imap m mp :: row a cap 111 513 (E.pend.map pcell ++ [.int .i64 (i : Int) :: bv s]) :: l) h) : Stars (dk d (E.wrote i s) :: l) h := by
  refine dk_shut (D := E.wrote i s) (m := m) (mp := mp) (a := a) (cap := cap) (hw.wrote hi hs hp) hd ?_
  have e1 : (E.wrote i s).pend.length = E.pend.length + 1 := by simp [Dk.wrote]
  have e2 : (E.wrote i s).pend.map pcell = E.pend.map pcell ++ [.int .i64 (i : Int) :: bv s] := by simp [Dk.wrote, pcell]
  rw [e1, e2]
  exact st
/-- The writes, the first k of which have been damaged. -/
def damP (l : List (Nat × List UInt8)) (i j : Nat) (c : UInt8) (k : Nat) : List (Nat × List UInt8) := (l.take k).map (fun p => if p.1 = i then (p.1, flipB p.2 j c) else p) ++ l.drop k
@[simp] theorem damP_length (l i j c k) : (damP l i j c k).length = l.length := by simp [damP]; omega
theorem bldP : Bld Tryz.prog 111 (.int .i64 0 :: bv zb) [(0, 1), (1, 512)] :=
  Bld.mk zeroP rfl Tryz.runUnderlying111 fun w => by kernel_rfl
theorem fill_pend {i : Int} {s : List UInt8} (hs : s.length = 512) : FillN [(0, 1), (1, 512)] (.int .i64 0 :: bv zb) [(0, .int .i64 i), (1, .agg (bv s).toArray)] (.int .i64 i :: bv s) := by
  refine .one rfl rfl .zero (.agg rfl (by simp [hs]) (by simp) ?_)
  have : splice (.int .i64 i :: bv zb) 1 (bv s) = .int .i64 i :: bv s := by
    simp [splice, hs]
  rw [this]
  exact .nil

end Go.Proofs.YtbhladkbnleeoaaGreat

namespace Go.Proofs.YtbhladkbnleeoaaGreat
set_option maxRecDepth 100000
attribute [local irreducible] J JL At Rd Ef DNew DCar DRun Then RetQ LoopQ

set_option maxHeartbeats 400000 in
theorem reach_any (d : Nat) (D : Dk) (i : Int) :
    Fn Tryz.prog 69 [.pointer (some ⟨d, 0, none⟩), .int .i64 i] [dk d D] (X := Unit) (fun _ => True) (fun _ => .int .i64 (reachC D i)) (fun _ => [dk d D]) := by
 refine Fn.mk' (n := 24) (l := [(0, .pointer (some ⟨d, 0, none⟩)), (1, .int .i64 i)]) (fn := Tryz.f69) Tryz.func69 (by kernel_rfl) rfl rfl (by simp) rfl ?_
 intro h0 w0
 refine J.openA dk_open ?_
 rintro ⟨m, mp, a, cap⟩ ⟨hwf, hdur⟩
 simp only [dparts, List.cons_append, List.nil_append]
 refine J.sr <| JL.as Ev.c <| JL.ns <| J.block <| J.sr <| JL.mv (t1 rfl) <| JL.rd (Rd.eqlNil (t0 rfl) Tryz.runUnderlying24) <| JL.as (t0 rfl) <| JL.n2 <| J.condF (EvB (t0 rfl) rfl) <| J.sr <| JL.mv (t4 rfl) <| JL.rd (Rd.nil (t0 rfl)) <| JL.rd ((by first | exact Rd.fld0 fld_106_5 (t0 rfl) | exact Rd.fld fld_106_5 (t0 rfl))) ?_
 refine JL.rd (Rd.ldN Tryz.isAgg4 (t0 rfl) (by repeat constructor) (by repeat constructor)) ?_
 refine JL.as (t0 rfl) <| JL.n2 <| J.cond (t0 rfl) ?_ ?_
 intro hc1
 exact J.sr <| JL.as Ev.c <| JL.nr <| At.blkR <| At.nextR <| At.ret (()) (trivial) (ResV.one rfl (t0 rfl)) (by simp [reachC, *]; try omega) (fun _ s => dk_shut hwf hdur (Stars.sel (by repeat constructor) s))
 intro hc1
 refine J.sr <| JL.mv (t10 rfl) <| JL.rd (Rd.lss (t0 rfl) Ev.c) <| JL.mv (t0 rfl) <| JL.caseD (t0 rfl) ?_ ?_
 intro hb2p hb2
 exact JL.skG rfl (EvB (t0 rfl) hb2) rfl <| JL.skG rfl (EvB (t1 rfl) hb2) rfl <| JL.skG rfl (EvB (t2 rfl) hb2) rfl <| JL.skG rfl (EvB (t3 rfl) hb2) rfl <| JL.skG rfl (EvB (t4 rfl) hb2) rfl <| JL.skG rfl (EvB (t5 rfl) hb2) rfl <| JL.rd (Rd.pickT (EvB (t6 rfl) hb2) Ev.c) <| JL.as (t0 rfl) <| JL.n2 <| J.condT (t0 rfl) <| J.sr <| JL.as Ev.c <| JL.nr <| At.blkR <| At.nextR <| At.ret (()) (trivial) (ResV.one rfl (t0 rfl)) (by simp [reachC, *]; try omega) (fun _ s => dk_shut hwf hdur (Stars.sel (by repeat constructor) s))
 intro hb2p hb2
 refine JL.rdG rfl (EvB (t0 rfl) hb2) rfl (Rd.move (t13 rfl)) <| JL.rdG rfl (EvB (t1 rfl) hb2) rfl (Rd.move (t13 rfl)) <| JL.rdG rfl (EvB (t2 rfl) hb2) rfl (Rd.nil (t0 rfl)) <| JL.rdG rfl (EvB (t3 rfl) hb2) rfl ((by first | exact Rd.fld0 fld_106_0 (t0 rfl) | exact Rd.fldz fld_106_0 (t0 rfl))) ?_
 refine JL.rdG rfl (EvB (t4 rfl) hb2) rfl (Rd.ldN Tryz.isAgg3 (t0 rfl) (by repeat constructor) (by repeat constructor)) ?_
 refine JL.rdG rfl (EvB (t5 rfl) hb2) rfl (Rd.geq (t4 rfl) (t0 rfl)) <| JL.rd (Rd.pickF (EvB (t6 rfl) hb2) (t0 rfl)) <| JL.as (t0 rfl) <| JL.n2 <| J.condD (t0 rfl) ?_ ?_
 intro hc3
 exact J.sr <| JL.as Ev.c <| JL.nr <| At.blkR <| At.nextR <| At.ret (()) (trivial) (ResV.one rfl (t0 rfl)) (by simp [reachC, *]; try omega) (fun _ s => dk_shut hwf hdur (Stars.sel (by repeat constructor) s))
 intro hc3
 exact J.skip <| At.blkN <| At.next <| J.sr <| JL.as Ev.c <| JL.nr <| At.ret (()) (trivial) (ResV.one rfl (t0 rfl)) (by simp [reachC, *]; try omega) (fun _ s => dk_shut hwf hdur (Stars.sel (by repeat constructor) s))

set_option maxHeartbeats 400000 in
theorem operate_any (d : Nat) (D : Dk) (ho : D.ops < 1099511627776) :
    Fn Tryz.prog 70 [.pointer (some ⟨d, 0, none⟩)] [dk d D] (X := Unit) (fun _ => True) (fun _ => .int .i64 (operC D)) (fun _ => [dk d D.operated]) := by
 refine Fn.mk' (n := 27) (l := [(0, .pointer (some ⟨d, 0, none⟩))]) (fn := Tryz.f70) Tryz.func70 (by kernel_rfl) rfl rfl (by simp) rfl ?_
 intro h0 w0
 refine J.openA dk_open ?_
 rintro ⟨m, mp, a, cap⟩ ⟨hwf, hdur⟩
 simp only [dparts, List.cons_append, List.nil_append]
 have hn := hwf.lim1
 have hn2 := hwf.lim2
 refine J.sr <| JL.as Ev.c <| JL.n5 <| JL.mv (t1 rfl) <| JL.rd (Rd.nil (t0 rfl)) <| JL.rd ((by first | exact Rd.fld0 fld_106_4 (t0 rfl) | exact Rd.fld fld_106_4 (t0 rfl))) ?_
 refine JL.rd (Rd.ldN Tryz.isAgg3 (t0 rfl) (by repeat constructor) (by repeat constructor)) ?_
 refine JL.rd (Rd.eql (t0 rfl) Ev.c) <| JL.n2 <| J.condD (t0 rfl) ?_ ?_
 intro hc1
 refine J.sr <| JL.mv (t6 rfl) <| JL.rd (Rd.nil (t0 rfl)) <| JL.rd ((by first | exact Rd.fld0 fld_106_5 (t0 rfl) | exact Rd.fld fld_106_5 (t0 rfl))) ?_
 refine JL.ef0 (Ef.st Tryz.sizeOf4 (t0 rfl) Ev.c rfl (by repeat constructor) (by repeat constructor) (by repeat constructor) (by first | rfl | simp) ?_)
 exact JL.n4 <| JL.as Ev.c <| JL.nr <| At.nextR <| At.ret (()) (trivial) (ResV.one rfl (t0 rfl)) (by simp [operC, *]) (fun _ s => oper_shut1 hwf hdur (by assumption) (Stars.sel (by repeat constructor) s))
 intro hc1
 refine J.k4 <| JL.mv (t6 rfl) <| JL.mv (t7 rfl) <| JL.rd (Rd.nil (t0 rfl)) <| JL.rd ((by first | exact Rd.fld0 fld_106_4 (t0 rfl) | exact Rd.fld fld_106_4 (t0 rfl))) ?_
 refine JL.rd (Rd.ldN Tryz.isAgg3 (t0 rfl) (by repeat constructor) (by repeat constructor)) ?_
 refine JL.rd (Rd.sub (t0 rfl) Ev.c (w64 (by omega) (by omega))) ?_
 refine JL.rd (Rd.max2 (t0 rfl) Ev.c) <| JL.rd (Rd.nil (t6 rfl)) <| JL.rd ((by first | exact Rd.fld0 fld_106_4 (t0 rfl) | exact Rd.fld fld_106_4 (t0 rfl))) ?_
 refine JL.ef0 (Ef.st Tryz.sizeOf3 (t0 rfl) (t2 rfl) rfl (by repeat constructor) (by repeat constructor) (by repeat constructor) (by first | rfl | simp) ?_)
 refine JL.n4 <| JL.mv (t15 rfl) <| JL.rd (Rd.nil (t0 rfl)) <| JL.rd ((by first | exact Rd.fld0 fld_106_3 (t0 rfl) | exact Rd.fld fld_106_3 (t0 rfl))) ?_
 refine JL.rd (Rd.ldN Tryz.isAgg3 (t0 rfl) (by repeat constructor) (by repeat constructor)) ?_
 refine JL.rd (Rd.add (t0 rfl) Ev.c (w64 (by omega) (by omega))) ?_
 refine JL.rd (Rd.nil (t4 rfl)) <| JL.rd ((by first | exact Rd.fld0 fld_106_3 (t0 rfl) | exact Rd.fld fld_106_3 (t0 rfl))) ?_
 refine JL.ef0 (Ef.st Tryz.sizeOf3 (t0 rfl) (t2 rfl) rfl (by repeat constructor) (by repeat constructor) (by repeat constructor) (by first | rfl | simp) ?_)
 exact JL.n4 <| JL.as Ev.c <| JL.nr <| At.ret (()) (trivial) (ResV.one rfl (t0 rfl)) (by simp [operC, *]) (fun _ s => oper_shut2 hwf hdur ho (by assumption) (Stars.sel (by repeat constructor) s))
/-- What Backward hands out. -/
def backs (xs : List (List Value)) : List (List Value) := (List.range xs.length).reverse.map fun (i : Nat) => [.int .i64 (i : Int), .agg (xs.getD i []).toArray]
theorem backs_length (xs : List (List Value)) : (backs xs).length = xs.length := by simp [backs]
theorem backs_get {xs : List (List Value)} {k : Nat} {x : List Value} (h : (backs xs)[k]? = some x) : k < xs.length ∧ ∃ u, xs[xs.length - 1 - k]? = some u ∧ x = [.int .i64 ((xs.length : Int) - 1 - k), .agg u.toArray] := by
  have hk : k < xs.length := by have := (List.getElem?_eq_some_iff.1 h).1; rwa [backs_length] at this
  refine ⟨hk, xs[xs.length - 1 - k]'(by omega), by simp, ?_⟩
  simp [backs, hk] at h
  rw [← h]
  have h1 : ((xs.length - 1 - k : Nat) : Int) = (xs.length : Int) - 1 - k := by omega
  have h2 : xs.length - 1 - k < xs.length := by omega
  rw [h1, List.getElem?_eq_getElem h2]
  rfl
theorem backs_put {xs : List (List Value)} {k : Nat} (h : (k : Int) < xs.length) : ∃ u, xs[((xs.length : Int) - 1 - k).toNat]? = some u ∧ (backs xs)[k]? = some [.int .i64 ((xs.length : Int) - 1 - k), .agg u.toArray] := by
  obtain ⟨x, hx⟩ : ∃ x, (backs xs)[k]? = some x := ⟨_, List.getElem?_eq_getElem (by rw [backs_length]; omega)⟩
  obtain ⟨_, u, hu, rfl⟩ := backs_get hx
  refine ⟨u, ?_, hx⟩
  rw [show ((xs.length : Int) - 1 - k).toNat = xs.length - 1 - k by omega]
  exact hu

set_option maxHeartbeats 400000 in
theorem backward_any (a : Option Addr) (n cap : Nat) :
    Fn Tryz.prog 99 [.slice a n cap] [] (X := Nat) (fun _ => True) (fun b => .func (.func 111) #[] #[.pointer (some ⟨b, 0, none⟩)]) (fun b => [pts b (.cells [.slice a n cap].toArray 104)]) := by
 refine Fn.mk' (n := 4) (l := [(0, .slice a n cap)]) (fn := Tryz.f99) Tryz.func99 (by kernel_rfl) rfl rfl (by simp) rfl ?_
 intro h0 w0
 refine J.sr <| JL.ef (Ef.box (t0 rfl) rfl ?_)
 intro b1
 exact JL.as Ev.c <| JL.n4 <| JL.rd (Rd.mkfunc .nil (.cons (t1 rfl) .nil)) <| JL.as (t0 rfl) <| JL.nr <| At.r (b1) (trivial) (ResV.one rfl (t0 rfl)) rfl

set_option maxHeartbeats 400000 in
theorem backward1_any (l : Nat) (G Gx : Nat → Assn) (b cap : Nat) (a : Option Addr) (xs : List (List Value)) (hm : xs.length ≤ 9223372036854775807) (hy : ∀ k x, (backs xs)[k]? = some x → Yields Tryz.prog l x [G k] [G (k + 1)] [Gx k]) :
    Fn Tryz.prog 111 [.func (.yield l) #[] #[], .pointer (some ⟨b, 0, none⟩)] [pts b (.cells [.slice a xs.length cap].toArray 104), row a cap 111 513 xs, G 0] (X := Option Nat) (fun z => ∀ k, z = some k → k < xs.length) (fun _ => .tuple #[]) (fun z => [pts b (.cells [.slice a xs.length cap].toArray 104), row a cap 111 513 xs] ++ [match z with | none => G xs.length | some k => Gx k]) := by
 refine Fn.mk' (n := 19) (l := [(0, .func (.yield l) #[] #[]), (1, .pointer (some ⟨b, 0, none⟩))]) (fn := Tryz.f111) Tryz.func111 (by kernel_rfl) rfl rfl (by simp) rfl ?_
 intro h0 w0
 refine J.sr <| JL.rd (Rd.ldN Tryz.isAgg104 (t1 rfl) (by repeat constructor) (by repeat constructor)) ?_
 refine JL.rd (Rd.len Tryz.runUnderlying104 (t0 rfl)) <| JL.rd (Rd.sub (t0 rfl) Ev.c (w64 (by omega) (by omega))) ?_
 refine JL.as (t0 rfl) <| JL.nb <| J.loop (X := Nat) (fun (x : Nat) => [(3, .int .i64 ((xs.length : Int) - 1 - x))]) (K := [(0, _), (1, _)]) (fun x => [pts b (.cells [.slice a xs.length cap].toArray 104), row a cap 111 513 xs, G x]) (fun x => x ≤ xs.length) (fun x => xs.length - x) (0) ?_ ⟨lk0.trans (by first | with_reducible rfl | (congr 1; omega) | (simp; done) | (simp [*]; done)), trivial⟩ ⟨(lk4 rfl), (lk5 rfl), trivial⟩ (fun _ => Stars.sel (by repeat constructor)) ?_
 exact Nat.zero_le _
 intro x ρ hp
 simp only [cA, nA]
 refine J.seq <| J.sr <| JL.mv (t0 rfl) <| JL.rd (Rd.geq (t0 rfl) Ev.c) <| JL.n2 <| J.condD (t0 rfl) ?_ ?_
 intro hc1
 obtain ⟨u, hu, hb⟩ := backs_put (xs := xs) (k := x) (by omega)
 refine J.skip <| At.next <| J.seq <| J.block <| J.sr <| JL.mv (t3 rfl) <| JL.mv (t3 rfl) <| JL.rd (Rd.ldN Tryz.isAgg104 (t6 rfl) (by repeat constructor) (by repeat constructor)) ?_
 refine JL.mv (t5 rfl) <| JL.rd (Rd.sIdx Tryz.runUnderlying104 Tryz.sizeOf111 (t1 rfl) (t0 rfl) (SIn.row (by repeat constructor)) (by simp) (by omega) (by omega)) ?_
 refine JL.rd (Rd.sLdA Tryz.isAgg111 Tryz.sizeOf111 (t0 rfl) (SIn.row (by repeat constructor)) hu) ?_
 refine JL.ef (Ef.yield (t5 rfl) (.cons (t4 rfl) (.cons (t0 rfl) .nil)) (hy _ _ hb) (by repeat constructor) ?_ ?_)
 simp only [cA, nA]
 refine JL.rd (Rd.not (EvB (t0 rfl) rfl)) <| JL.n2 <| J.condF (EvB (t0 rfl) rfl) <| J.skip <| At.blkN <| At.next <| J.region <| JL.mv (t10 rfl) <| JL.rd (Rd.sub (t0 rfl) Ev.c (w64 (by omega) (by omega))) ?_
 refine JL.as (t0 rfl) <| JL.nil <| At.again (x + 1) ?_ ?_ ⟨lk0.trans (by first | with_reducible rfl | (congr 1; omega) | (simp; done) | (simp [*]; done)), trivial⟩ ⟨(lk14 rfl), (lk15 rfl), trivial⟩ (fun _ => Stars.sel (by repeat constructor))
 omega
 omega
 simp only [cA, nA]
 exact JL.rd (Rd.not (EvB (t0 rfl) rfl)) <| JL.n2 <| J.condT (EvB (t0 rfl) rfl) <| J.ret <| At.blkR <| At.nextR <| At.loopR <| At.blkR <| At.r (some x) (by intro k hk; cases hk; omega) (ResV.nores rfl) rfl
 intro hc1
 obtain rfl : x = xs.length := by omega
 exact J.exit <| At.nextX <| At.loopX <| At.blkX <| At.retN (none) (by intro k hk; cases hk) (ResV.nores rfl) rfl (fun _ => Stars.sel (by repeat constructor))

theorem backward_iter (b cap : Nat) (a : Option Addr) (xs : List (List Value)) (n : Nat) (hn : xs.length = n) (hm : n ≤ 9223372036854775807) :
    Iter Tryz.prog 111 [.pointer (some ⟨b, 0, none⟩)] [pts b (.cells [.slice a n cap].toArray 104), row a cap 111 513 xs] (backs xs) [pts b (.cells [.slice a n cap].toArray 104), row a cap 111 513 xs] := by
  subst hn
  exact Iter.of (backs_length xs) fun l J Jx hy => backward1_any l J Jx b cap a xs hm hy
theorem backward1_ent : Ent Tryz.prog 111 := ⟨Tryz.f111, by kernel_rfl, rfl, rfl⟩
theorem backs_two {xs : List (List Value)} {x : List Value} (h : x ∈ backs xs) : x.length = 2 := by
  unfold backs at h
  obtain ⟨i, _, rfl⟩ := List.mem_map.1 h
  rfl
set_option maxHeartbeats 400000 in
theorem visible_any (d : Nat) (D : Dk) (i : Nat) (hi : i < D.n) :
    Fn Tryz.prog 75 [.pointer (some ⟨d, 0, none⟩), .int .i64 (i : Int)] [dk d D] (X := Unit) (fun _ => True) (fun _ => .agg (bv (D.vis i)).toArray) (fun _ => [dk d D]) := by
 refine Fn.mk' (n := 26) (l := [(0, .pointer (some ⟨d, 0, none⟩)), (1, .int .i64 (i : Int))]) (fn := Tryz.f75) Tryz.func75 (by kernel_rfl) rfl rfl (by simp) rfl ?_
 intro h0 w0
 refine J.openA dk_open ?_
 rintro ⟨m, mp, a, cap⟩ ⟨hwf, hdur⟩
 simp only [dparts, List.cons_append, List.nil_append]
 have hvl := hwf.vis i
 refine J.sr <| JL.ef (Ef.box (t1 rfl) rfl ?_)
 intro b1
 refine JL.ef (Ef.alloc zero0 rfl ?_)
 intro b2
 refine JL.n5 <| JL.mv (t2 rfl) <| JL.rd (Rd.nil (t0 rfl)) <| JL.rd ((by first | exact Rd.fld0 fld_106_2 (t0 rfl) | exact Rd.fld fld_106_2 (t0 rfl))) ?_
 refine JL.rd (Rd.ldN Tryz.isAgg104 (t0 rfl) (by repeat constructor) (by repeat constructor)) ?_
 refine JL.ef (Ef.call (.cons (t0 rfl) .nil) (backward_any a D.pend.length cap) (by repeat constructor) ?_)
 rintro bb -
 simp only [cA, nA]
 refine JL.nb <| J.live (K := [(11, _), (4, _), (3, _), (0, _)]) ⟨lk0, (lk5 rfl), (lk6 rfl), (lk7 rfl), trivial⟩ ?_
 intro ρ3
 refine J.rangeFunc (own := [pts bb (.cells [.slice a D.pend.length cap].toArray 104), row a cap 111 513 (D.pend.map pcell)]) (own' := [pts bb (.cells [.slice a D.pend.length cap].toArray 104), row a cap 111 513 (D.pend.map pcell)]) (xs := backs (D.pend.map pcell)) (fun k => [pts d (.cells [.int .i64 D.n, .map (some m), .slice a D.pend.length cap, .int .i64 D.ops, .int .i64 D.lim, .bool D.down].toArray 106), imap m mp, pts b1 (.cells [.int .i64 (i : Int)].toArray 3), pts b2 (.cells (bv zb).toArray 108), pure_ (∀ q ∈ D.pend.drop (D.pend.length - k), q.1 ≠ i)]) (fun k c => [pts d (.cells [.int .i64 D.n, .map (some m), .slice a D.pend.length cap, .int .i64 D.ops, .int .i64 D.lim, .bool D.down].toArray 106), imap m mp, pts b2 (.cells (bv (D.vis i)).toArray 108), pure_ (c = .ret)]) (t0 rfl) (backward_iter bb cap a (D.pend.map pcell) _ (by simp) (by have := hwf.plen; omega)) (backward1_ent) (by repeat constructor) (fun x hx => backs_two hx) (fun _ s => by have s1 := Stars.factE (p := ∀ q ∈ D.pend.drop (D.pend.length - 0), q.1 ≠ i) (by simp) s; simp only [cA, nA] at s1; exact Stars.sel (by repeat constructor) s1) ?_ ?_ ?_
 intro l r0 fn k x h0 w0 hx
 obtain ⟨hk, u, hu, rfl⟩ := backs_get hx
 simp only [List.getElem?_map, Option.map_eq_some_iff, List.length_map] at hu hk
 obtain ⟨p, hp, (rfl : .int .i64 (p.1 : Int) :: bv p.2 = u)⟩ := hu
 have hpl := (hwf.pend p (List.mem_of_getElem? hp)).2
 refine J.openP (by repeat constructor) ?_
 intro hno
 simp only [List.zip_cons_cons, List.zip_nil_right, setp_ext, setp_nil]
 refine J.region <| JL.ef (Ef.alloc zeroP rfl ?_)
 intro b4
 refine JL.ef0 (Ef.stB Tryz.sizeOf111 (t0 rfl) (t1 rfl) (by repeat constructor) (by repeat constructor) (by first | rfl | assumption | simp_all) (by first | rfl | assumption | simp_all) (by first | exact bv_one _ | exact cons_one rfl (bv_one _) | (simp [Value.oneCell']; done) | (simp [Value.oneCell', str]; done)) (by decide) ?_)
 refine JL.nil <| At.asg (by repeat constructor) (by repeat constructor) ?_
 refine J.block <| J.sr <| JL.rd ((by first | exact Rd.fld0 fld_111_0 (t0 rfl) | exact Rd.fldz fld_111_0 (t0 rfl))) ?_
 refine JL.rd (Rd.ldN Tryz.isAgg3 (t0 rfl) (by repeat constructor) (by repeat constructor)) ?_
 refine JL.rd (Rd.ldN Tryz.isAgg3 (t7 rfl) (by repeat constructor) (by repeat constructor)) ?_
 refine JL.rd (Rd.eql (t1 rfl) (t0 rfl)) <| JL.n2 <| J.condD (t0 rfl) ?_ ?_
 intro hc5
 have hv : D.vis i = p.2 := Dk.vis_hit hk hp hno (by omega)
 refine J.sr <| JL.rd ((by first | exact Rd.fld0 fld_111_1 (t4 rfl) | exact Rd.fld fld_111_1 (t4 rfl))) ?_
 refine JL.rd (Rd.ldA (vs := bv p.2) Tryz.isAgg108 Tryz.sizeOf108 (t0 rfl) (by repeat constructor) (by show List.take 512 (bv p.2) = bv p.2; exact List.take_of_length_le (by simp [hpl])) (by simp [hpl])) ?_
 refine JL.ef0 (Ef.stB Tryz.sizeOf108 (t10 rfl) (t0 rfl) (by repeat constructor) (by repeat constructor) (by first | rfl | assumption | simp_all) (by first | rfl | assumption | simp_all) (by first | exact bv_one _ | exact cons_one rfl (bv_one _) | (simp [Value.oneCell']; done) | (simp [Value.oneCell', str]; done)) (by decide) ?_)
 exact JL.nr <| At.blkR <| At.rndR (by repeat constructor) (by repeat constructor) (fun _ s => by have s1 := Stars.factE (p := Code.ret = .ret) rfl s; simp only [cA, nA] at s1; refine exL_mk Code.ret ?_; simp only [List.cons_append, List.nil_append, hv]; exact Stars.sel (by repeat constructor) s1)
 intro hc5
 have hno2 : ∀ q ∈ D.pend.drop (D.pend.length - (k + 1)), q.1 ≠ i := by rw [drop_step hk hp]; exact fun q hq => (List.mem_cons.1 hq).elim (fun e e' => hc5 (by rw [← e', e])) (hno q)
 exact J.skip <| At.blkN <| At.rndN (by repeat constructor) (by repeat constructor) (fun _ s => by have s1 := Stars.factE (p := ∀ q ∈ D.pend.drop (D.pend.length - (k + 1)), q.1 ≠ i) hno2 s; simp only [cA, nA] at s1; exact Stars.sel (by repeat constructor) s1)
 intro r0
 simp only [cA, nA]
 refine At.openP (by repeat constructor) ?_
 intro hno
 rw [backs_length, List.length_map, Nat.sub_self, List.drop_zero] at hno
 refine At.blkN <| At.next <| J.seq <| J.draw [lz, lz, lz, lz, lz, lz, ⟨true, 0, 0⟩] [6] mixed rfl <| DRun.at [] [0, 1, 2, 3, 4, 5] rfl rfl ?_ ?_
 exact .nil
 refine DNew.rd rfl (Rd.move (t3 rfl)) <| DNew.rd rfl (Rd.nil (t0 rfl)) <| DNew.rd rfl ((by first | exact Rd.fld0 fld_106_1 (t0 rfl) | exact Rd.fld fld_106_1 (t0 rfl))) ?_
 refine DNew.rd rfl (Rd.ldN Tryz.isAgg103 (t0 rfl) (by repeat constructor) (by repeat constructor)) ?_
 refine DNew.rd rfl (Rd.ldN Tryz.isAgg3 (t6 rfl) (by repeat constructor) (by repeat constructor)) ?_
 refine DNew.rd rfl (Rd.lookup (v := .agg (bv (D.vis i)).toArray) Tryz.runUnderlying103 Tryz.runUnderlying3 zero0 (t1 rfl) (t0 rfl) (by repeat constructor) (by rw [Dk.vis_none hno]; exact dur_get hdur hi)) ?_
 refine DNew.nil <| DRun.ef0 rfl (Ef.stB Tryz.sizeOf108 (t7 rfl) (t0 rfl) (by repeat constructor) (by repeat constructor) (by first | rfl | assumption | simp_all) (by first | rfl | assumption | simp_all) (by first | exact bv_one _ | exact cons_one rfl (bv_one _) | (simp [Value.oneCell']; done) | (simp [Value.oneCell', str]; done)) (by decide) ?_)
 refine DRun.end [] [] rfl rfl ?_ ?_
 exact .nil
 exact DNew.n2 <| J.ret <| At.retM (()) (trivial) (by repeat constructor) (ResV.cell rfl Tryz.isAgg108 Tryz.sizeOf108 (t7 rfl) (by repeat constructor) (by first | rfl | assumption | simp_all)) rfl (fun _ s => dk_shut hwf hdur (Stars.sel (by repeat constructor) s))
 intro r0 k c hk
 simp only [cA, nA]
 refine J.openP (by repeat constructor) ?_
 rintro rfl
 exact J.ret <| At.blkR <| At.nextR <| At.retM (()) (trivial) (by repeat constructor) (ResV.cell rfl Tryz.isAgg108 Tryz.sizeOf108 (t1 rfl) (by repeat constructor) (by first | rfl | assumption | simp_all)) rfl (fun _ s => dk_shut hwf hdur (Stars.sel (by repeat constructor) s))
theorem eltP : Elt Tryz.prog 104 111 513 520 (.int .i64 0 :: bv zb) := Elt.mk' Tryz.underlying104 (i := Tryz.t111) (v := .agg (.int .i64 0 :: bv zb).toArray) (by kernel_rfl) (by rw [bv_zb]; kernel_rfl) (by kernel_rfl) (by kernel_rfl) rfl (by simp) (by decide)
set_option maxHeartbeats 400000 in
theorem new_any (n : Int) :
    Fn Tryz.prog 39 [.int .i64 n] [] (X := Nat) (fun _ => True) (fun x => newV n x) (fun x => if 1 ≤ n ∧ n ≤ 8192 then [dk x (newD n.toNat)] else []) := by
 refine Fn.mk' (n := 14) (l := [(0, .int .i64 n)]) (fn := Tryz.f39) Tryz.func39 (by kernel_rfl) rfl rfl (by simp) rfl ?_
 intro h0 w0
 refine J.sr <| JL.as Ev.c <| JL.as Ev.c <| JL.n5 <| JL.mv (t2 rfl) <| JL.rd (Rd.lss (t0 rfl) Ev.c) <| JL.mv (t0 rfl) <| JL.caseD (t0 rfl) ?_ ?_
 intro hb1p hb1
 exact JL.skG rfl (EvB (t0 rfl) hb1) rfl <| JL.skG rfl (EvB (t1 rfl) hb1) rfl <| JL.rd (Rd.pickT (EvB (t2 rfl) hb1) Ev.c) <| JL.n2 <| J.condT (t0 rfl) <| J.sr <| JL.as Ev.c <| JL.as Ev.c <| JL.nr <| At.nextR <| At.ret (0) (trivial) (ResV.two rfl (t1 rfl) (t0 rfl)) (by show _ = newV n _; unfold newV; first | (rw [if_neg (by omega)]; done) | (rw [if_pos (by omega)]; done)) (fun _ s => by rw [if_neg (by omega)]; trivial)
 intro hb1p hb1
 refine JL.rdG rfl (EvB (t0 rfl) hb1) rfl (Rd.move (t5 rfl)) <| JL.rdG rfl (EvB (t1 rfl) hb1) rfl (Rd.gtr (t0 rfl) Ev.c) <| JL.rd (Rd.pickF (EvB (t2 rfl) hb1) (t0 rfl)) <| JL.n2 <| J.condD (t0 rfl) ?_ ?_
 intro hc2
 exact J.sr <| JL.as Ev.c <| JL.as Ev.c <| JL.nr <| At.nextR <| At.ret (0) (trivial) (ResV.two rfl (t1 rfl) (t0 rfl)) (by show _ = newV n _; unfold newV; first | (rw [if_neg (by omega)]; done) | (rw [if_pos (by omega)]; done)) (fun _ s => by rw [if_neg (by omega)]; trivial)
 intro hc2
 refine J.k4 <| JL.mv (t8 rfl) <| JL.ef (Ef.mkmap ?_)
 intro m3
 refine JL.rd (Rd.buildS (.cons (t1 rfl) (.cons (t0 rfl) (.cons Ev.c .nil))) bld_106 (by repeat (first | exact FillN.nil | apply FillN.one rfl rfl (by repeat constructor)))) ?_
 refine JL.ef (Ef.box (t0 rfl) rfl ?_)
 intro b4
 exact JL.as (t0 rfl) <| JL.as Ev.c <| JL.nr <| At.ret (b4) (trivial) (ResV.two rfl (t1 rfl) (t0 rfl)) (by show _ = newV n _; unfold newV; first | (rw [if_neg (by omega)]; done) | (rw [if_pos (by omega)]; done)) (fun _ s => by rw [if_pos (by omega)]; exact new_shut (by omega) (by omega) s)

set_option maxHeartbeats 400000 in
theorem write_any (d : Nat) (D : Dk) (i : Int) (a : Option Addr) (cap : Nat) (s : List UInt8) (ho : D.ops < 1099511627776) (hp : D.pend.length < 1048576) :
    Fn Tryz.prog 113 [.pointer (some ⟨d, 0, none⟩), .int .i64 i, .slice a s.length cap] [dk d D, bytesA a cap s] (X := Unit) (fun _ => True) (fun _ => .int .i64 (writeC D i s.length)) (fun _ => [dk d (writeD D i s), bytesA a cap s]) := by
 refine Fn.mk' (n := 37) (l := [(0, .pointer (some ⟨d, 0, none⟩)), (1, .int .i64 i), (2, .slice a s.length cap)]) (fn := Tryz.f113) Tryz.func113 (by kernel_rfl) rfl rfl (by simp) rfl ?_
 intro h0 w0
 refine J.sr <| JL.as Ev.c <| JL.n5 <| JL.mv (t1 rfl) <| JL.mv (t3 rfl) <| JL.ef (Ef.call (.cons (t1 rfl) (.cons (t0 rfl) .nil)) (reach_any d D i) (by repeat constructor) ?_)
 rintro - -
 simp only [cA, nA]
 refine JL.as (t0 rfl) <| JL.n4 <| JL.mv (t0 rfl) <| JL.rd (Rd.neq (t0 rfl) Ev.c) <| JL.n2 <| J.condD (t0 rfl) ?_ ?_
 intro hc1
 exact J.sr <| JL.mv (t2 rfl) <| JL.as (t0 rfl) <| JL.nr <| At.nextR <| At.ret (()) (trivial) (ResV.one rfl (t0 rfl)) (by simp [writeC, *]) (fun _ st => by have e : writeD D i s = D := (by simp [writeD, *]); rw [e]; exact Stars.sel (by repeat constructor) st)
 intro hc1
 have hr : reachC D i = 0 := by simpa using hc1
 obtain ⟨hdn, hi0, hin⟩ := reach_zero hr
 refine J.skip <| At.next <| J.seq <| J.sr <| JL.mv (t9 rfl) <| JL.rd (Rd.len Tryz.runUnderlying122 (t0 rfl)) <| JL.rd (Rd.neq (t0 rfl) Ev.c) <| JL.n2 <| J.condD (t0 rfl) ?_ ?_
 intro hc2
 have hs : s.length ≠ 512 := by omega
 exact J.sr <| JL.as Ev.c <| JL.nr <| At.nextR <| At.ret (()) (trivial) (ResV.one rfl (t0 rfl)) (by simp [writeC, *]) (fun _ st => by have e : writeD D i s = D := (by simp [writeD, *]); rw [e]; exact Stars.sel (by repeat constructor) st)
 intro hc2
 have hs : s.length = 512 := by omega
 refine J.skip <| At.next <| J.seq <| J.sr <| JL.mv (t10 rfl) <| JL.ef (Ef.call (.cons (t0 rfl) .nil) (operate_any d D ho) (by repeat constructor) ?_)
 rintro - -
 simp only [cA, nA]
 refine JL.as (t0 rfl) <| JL.n4 <| JL.mv (t0 rfl) <| JL.rd (Rd.neq (t0 rfl) Ev.c) <| JL.n2 <| J.condD (t0 rfl) ?_ ?_
 intro hc3
 exact J.sr <| JL.mv (t2 rfl) <| JL.as (t0 rfl) <| JL.nr <| At.nextR <| At.ret (()) (trivial) (ResV.one rfl (t0 rfl)) (by simp [writeC, *]) (fun _ st => by have e : writeD D i s = D.operated := (by simp [writeD, *]); rw [e]; exact Stars.sel (by repeat constructor) st)
 intro hc3
 have hop : operC D = 0 := by simpa using hc3
 generalize hE : D.operated = E
 refine J.openT (by repeat constructor) dk_open ?_
 rintro ⟨m, mp, a0, cap0⟩ ⟨hwf, hdur⟩
 simp only [dparts, List.cons_append, List.nil_append]
 have hEn : E.n = D.n := by rw [← hE]; simp
 have hEp : E.pend = D.pend := by rw [← hE]; simp
 have hEl : E.pend.length = D.pend.length := by rw [hEp]
 refine J.skip <| At.next <| J.seq <| J.draw [⟨false, 0, 2⟩, ⟨false, 0, 1⟩, ⟨false, 0, 1⟩, ⟨false, 0, 1⟩, ⟨false, 0, 1⟩, lz, lz, lz, lz, lz, ⟨true, 0, 0⟩, ⟨true, 1, 1⟩, ⟨false, 2, 2⟩, ⟨false, 2, 2⟩, ⟨true, 2, 2⟩] [10, 11, 14] mixed rfl <| DRun.at [] [0, 1, 2, 3, 4, 5, 6, 7, 8, 9] rfl rfl ?_ ?_
 exact .nil
 refine DNew.rd rfl (Rd.move (t15 rfl)) <| DNew.rd rfl (Rd.move (t16 rfl)) <| DNew.rd rfl (Rd.nil (t0 rfl)) <| DNew.rd rfl ((by first | exact Rd.fld0 fld_106_2 (t0 rfl) | exact Rd.fld fld_106_2 (t0 rfl))) ?_
 refine DNew.rd rfl (Rd.ldN Tryz.isAgg104 (t0 rfl) (by repeat constructor) (by repeat constructor)) ?_
 refine DNew.rd rfl (Rd.move (t21 rfl)) <| DNew.rd rfl (Rd.move (t23 rfl)) <| DNew.rd rfl (Rd.arrptr Tryz.runUnderlying108 (t0 rfl) (by omega)) ?_
 refine DNew.rd rfl (Rd.byArr Tryz.isAgg108 Tryz.sizeOf108 (t0 rfl) (SIn.bytes (by repeat constructor)) hs (by decide)) ?_
 refine DNew.rd rfl (Rd.buildS (.cons (t3 rfl) (.cons (t0 rfl) .nil)) bldP (fill_pend hs)) <| DNew.nil <| DRun.ef rfl (Ef.slit1 eltP (t0 rfl) rfl (by simp [hs]) (by decide) ?_)
 intro bs
 refine DRun.at [0, 1, 2, 3, 4] [] rfl rfl ?_ ?_
 refine DCar.rd rfl (lk10 rfl) (Rd.move (t26 rfl)) <| DCar.rd rfl (lk9 rfl) (Rd.move (t26 rfl)) <| DCar.rd rfl (lk8 rfl) (Rd.nil (t9 rfl)) <| DCar.rd rfl (lk7 rfl) ((by first | exact Rd.fld0 fld_106_2 (t8 rfl) | exact Rd.fld fld_106_2 (t8 rfl))) ?_
 refine DCar.rd rfl (lk6 rfl) (Rd.ldN Tryz.isAgg104 (t7 rfl) (by repeat constructor) (by repeat constructor)) ?_
 exact .nil
 refine DNew.nil <| DRun.ef rfl (Ef.appS eltP (t6 rfl) (t0 rfl) (by repeat constructor) (SIn.row (by repeat constructor)) (by simp) rfl (by simpa using cons_one rfl (bv_one _)) (by omega) (by simp only [maxLen]; omega) ?_)
 intro a1 cap1
 refine DRun.at [0] [12, 13] rfl rfl ?_ ?_
 exact DCar.rd rfl (lk11 rfl) (Rd.move (t27 rfl)) <| .nil
 refine DNew.rd rfl (Rd.nil (t11 rfl)) <| DNew.rd rfl ((by first | exact Rd.fld0 fld_106_2 (t0 rfl) | exact Rd.fld fld_106_2 (t0 rfl))) ?_
 refine DNew.nil <| DRun.ef0 rfl (Ef.st Tryz.sizeOf104 (t0 rfl) (t2 rfl) rfl (by repeat constructor) (by repeat constructor) (by repeat constructor) (by first | rfl | simp) ?_)
 refine DRun.end [] [] rfl rfl ?_ ?_
 exact .nil
 refine DNew.n2 <| J.seq <| J.live (K := [(6, _)]) ⟨(lk28 rfl), trivial⟩ ?_
 intro ρ4
 exact J.region <| JL.as Ev.c <| JL.nr <| At.ret (()) (trivial) (ResV.one rfl (t0 rfl)) (by simp [writeC, *]) (fun _ st => by have e : writeD D i s = E.wrote i.toNat s := (by simp [writeD, *]); rw [e]; have hii : ((i.toNat : Nat) : Int) = i := (by omega); have s1 := Stars.sel (pre := [pts d (.cells [.int .i64 E.n, .map (some m), .slice a1 (E.pend.length + 1) cap1, .int .i64 E.ops, .int .i64 E.lim, .bool E.down].toArray 106), imap m mp, row a1 cap1 111 513 (E.pend.map pcell ++ [.int .i64 i :: bv s]), bytesA a cap s]) (by repeat constructor) st; rw [← hii] at s1; exact write_shut hwf hdur (by omega) hs (by omega) s1)

theorem new_ok (n : Int) (h1 : 1 ≤ n) (h2 : n ≤ 8192) : Fn Tryz.prog 39 [.int .i64 n] [] (X := Nat) (fun _ => True) (fun d => .tuple #[.pointer (some ⟨d, 0, none⟩), .int .i64 0]) (fun d => [dk d (newD n.toNat)]) :=
  (new_any n).cv (fun _ s => s) (fun d _ => if_pos ⟨h1, h2⟩) fun d h _ s => by rw [if_pos ⟨h1, h2⟩] at s; exact s
def full (c : UInt8) : List UInt8 := List.replicate 512 c
@[simp] theorem full_length (c : UInt8) : (full c).length = 512 := List.length_replicate

def kd : Dk := ((newD 4).operated.wrote 2 (full 7))
def itc (p : It) : List Value := [str p.1, str p.2]
def kdc (p : Kd) : List Value := [str p.1, .int .i64 (p.2 : Int)]
theorem itc_one {l : List It} : ∀ u ∈ (l.map itc).flatten, u.oneCell' = true := by
  intro u hu
  obtain ⟨x, hx, hu⟩ := List.mem_flatten.1 hu
  obtain ⟨p, _, rfl⟩ := List.mem_map.1 hx
  simp only [itc, List.mem_cons, List.not_mem_nil, or_false] at hu
  rcases hu with rfl | rfl <;> rfl
theorem kdc_one {l : List Kd} : ∀ u ∈ (l.map kdc).flatten, u.oneCell' = true := by
  intro u hu
  obtain ⟨x, hx, hu⟩ := List.mem_flatten.1 hu
  obtain ⟨p, _, rfl⟩ := List.mem_map.1 hx
  simp only [kdc, List.mem_cons, List.not_mem_nil, or_false] at hu
  rcases hu with rfl | rfl <;> rfl
theorem b1s_append (l m : List UInt8) : b1s l ++ b1s m = b1s (l ++ m) := by simp [b1s]
theorem take_step {α : Type} {l : List α} {x : Nat} {p : α} (h : l[x]? = some p) : l.take (x + 1) = l.take x ++ [p] := by
  have h1 := List.getElem?_eq_some_iff.1 h
  rw [List.take_succ_eq_append_getElem h1.1, h1.2]
theorem leafB_step {l : List It} {x : Nat} {p : It} (h : l[x]? = some p) : b1s (leafB (l.take x)) ++ b1s [UInt8.ofNat p.1.length, UInt8.ofNat (p.2.length / 2 ^ 8), UInt8.ofNat p.2.length] ++ b1s p.1 ++ b1s p.2 = b1s (leafB (l.take (x + 1))) := by
  rw [take_step h, b1s_append, b1s_append, b1s_append]
  simp [leafB, itB, be2]
theorem sizeL_step {l : List It} {x : Nat} {p : It} (h : l[x]? = some p) : sizeL (l.take (x + 1)) = sizeL (l.take x) + 3 + p.1.length + p.2.length := by
  rw [take_step h, sizeL_append, sizeL_cons]
  have : sizeL [] = 0 := rfl
  omega
@[simp] theorem sizeL_nil : sizeL [] = 0 := rfl
theorem sizeL_take (l : List It) (x : Nat) : sizeL (l.take x) ≤ sizeL l := by
  have h : l = l.take x ++ l.drop x := (List.take_append_drop x l).symm
  have := sizeL_append (l.take x) (l.drop x)
  rw [← h] at this
  omega
theorem lit3u (a b c : UInt8) : ∀ w, (Instr.buildSlice 122 3 [(0, Value.int .u8 (a.toNat : Int)), (1, .int .u8 (b.toNat : Int)), (2, .int .u8 (c.toNat : Int))].toArray).run Tryz.prog w = .ok (.slice (some ⟨w.heap.size, 0, none⟩) 3 3) (w.alloc (.cells (bv [a, b, c]).toArray 5)) := fun w => by kernel_rfl
theorem lit4u (a b c d : UInt8) : ∀ w, (Instr.buildSlice 122 4 [(0, Value.int .u8 (a.toNat : Int)), (1, .int .u8 (b.toNat : Int)), (2, .int .u8 (c.toNat : Int)), (3, .int .u8 (d.toNat : Int))].toArray).run Tryz.prog w = .ok (.slice (some ⟨w.heap.size, 0, none⟩) 4 4) (w.alloc (.cells (bv [a, b, c, d]).toArray 5)) := fun w => by kernel_rfl
set_option maxHeartbeats 400000 in
theorem lbytes_any (a : Option Addr) (cap : Nat) (l : List It) (hs : sizeL l ≤ 1048576) (hl : l.length ≤ 1048576) :
    Fn Tryz.prog 132 [.slice a l.length cap] [rowR a 2 (l.map itc)] (X := Option Addr × Nat) (fun _ => True) (fun x => .tuple #[.int .i64 1, .int .i64 l.length, .slice x.1 (sizeL l) x.2]) (fun x => [rowR a 2 (l.map itc), row x.1 x.2 5 1 (b1s (leafB l))]) := by
 refine Fn.mk' (n := 42) (l := [(0, .slice a l.length cap)]) (fn := Tryz.f132) Tryz.func132 (by kernel_rfl) rfl rfl (by simp) rfl ?_
 intro h0 w0
 refine J.sr <| JL.as Ev.c <| JL.as Ev.c <| JL.as Ev.c <| JL.n4 <| JL.as Ev.c <| JL.n5 <| JL.mv (t4 rfl) <| JL.rd (Rd.len Tryz.runUnderlying85 (t0 rfl)) <| JL.mv Ev.c <| JL.nb <| J.loop (X := Nat × Option Addr × Nat) (fun (x : Nat × Option Addr × Nat) => [(10, .int .i64 (x.1 : Int)), (5, .slice x.2.1 (sizeL (l.take x.1)) x.2.2)]) (K := [(9, _), (8, _), (4, _), (3, _), (2, _), (0, _)]) (fun x => [rowR a 2 (l.map itc), row x.2.1 x.2.2 5 1 (b1s (leafB (l.take x.1)))]) (fun x => x.1 ≤ l.length) (fun x => l.length - x.1) ((0, none, 0)) ?_ ⟨lk0.trans (by first | ((congr 1; omega); done) | with_reducible rfl | (congr 1; omega) | (simp; done) | (simp [*]; done)), (lk3 rfl).trans (by first | ((congr 1; omega); done) | with_reducible rfl | (congr 1; omega) | (simp; done) | (simp [*]; done)), trivial⟩ ⟨(lk1 rfl), (lk2 rfl), (lk4 rfl), (lk5 rfl), (lk6 rfl), (lk7 rfl), trivial⟩ (fun _ s => Stars.sel (by repeat constructor) (row_nil 5 1 s)) ?_
 exact Nat.zero_le _
 rintro ⟨x, b, c⟩ ρ hk
 simp only [cA, nA]
 dsimp only at hk ⊢
 refine J.sr <| JL.rd (Rd.lss (t0 rfl) (t2 rfl)) <| JL.ns <| J.condD (t0 rfl) ?_ ?_
 intro hc1
 obtain ⟨p, hp⟩ : ∃ p, l[x]? = some p := ⟨_, List.getElem?_eq_getElem (by omega)⟩
 have hx : (l.map itc)[(x : Int).toNat]? = some [str p.1, str p.2] := by simp [hp, itc]
 have hss := sizeL_step hp
 have hst := sizeL_take l (x + 1)
 have hsz : (b1s (leafB (l.take x))).length = sizeL (l.take x) := by rw [b1s_length]; rfl
 refine J.skip <| At.next <| J.seq <| J.block <| J.sr <| JL.rd (Rd.sIdx Tryz.runUnderlying85 Tryz.sizeOf64 (t4 rfl) (t1 rfl) (Src.i (by repeat constructor)) (by first | (simp; done) | (simp; omega) | omega | (simp [*]; done) | (simp [*]; omega)) (by omega) (by omega)) ?_
 refine JL.rd (Rd.sLdA Tryz.isAgg64 Tryz.sizeOf64 (t0 rfl) (Src.i (by repeat constructor)) hx) ?_
 refine JL.ef (Ef.alloc Tryz.zeroValue64 rfl ?_)
 intro b2
 refine JL.ef0 (Ef.stB Tryz.sizeOf64 (t0 rfl) (t1 rfl) (by repeat constructor) (by repeat constructor) (by first | rfl | assumption | simp_all) (by first | rfl | assumption | simp_all) (by first | exact bv_one _ | exact cons_one rfl (bv_one _) | (simp [Value.oneCell']; done) | (simp [Value.oneCell', str]; done)) (by decide) ?_)
 refine JL.n4 <| JL.mv (t5 rfl) <| JL.rd ((by first | exact Rd.fld0 fld_64_0 (t1 rfl) | exact Rd.fldz fld_64_0 (t1 rfl))) ?_
 refine JL.rd (Rd.ldN Tryz.isAgg9 (t0 rfl) (by repeat constructor) (by repeat constructor)) ?_
 refine JL.rd (Rd.lenStr Tryz.runUnderlying9 (t0 rfl)) <| JL.rd (Rd.conv8 (t0 rfl) (fun w => ⟨_, Tryz.runUnderlying3 w⟩) Tryz.runUnderlying5) <| JL.rd ((by first | exact Rd.fld0 fld_64_1 (t5 rfl) | exact Rd.fld fld_64_1 (t5 rfl))) ?_
 refine JL.rd (Rd.ldN Tryz.isAgg9 (t0 rfl) (by repeat constructor) (by repeat constructor)) ?_
 refine JL.rd (Rd.lenStr Tryz.runUnderlying9 (t0 rfl)) <| JL.rd (Rd.shrN (n := 8) (t0 rfl) Ev.c (by decide)) ?_
 refine JL.rd (Rd.conv8 (t0 rfl) (fun w => ⟨_, Tryz.runUnderlying3 w⟩) Tryz.runUnderlying5) <| JL.rd ((by first | exact Rd.fld0 fld_64_1 (t10 rfl) | exact Rd.fld fld_64_1 (t10 rfl))) ?_
 refine JL.rd (Rd.ldN Tryz.isAgg9 (t0 rfl) (by repeat constructor) (by repeat constructor)) ?_
 refine JL.rd (Rd.lenStr Tryz.runUnderlying9 (t0 rfl)) <| JL.rd (Rd.conv8 (t0 rfl) (fun w => ⟨_, Tryz.runUnderlying3 w⟩) Tryz.runUnderlying5) <| JL.ef (Ef.byLitN (l := [UInt8.ofNat p.1.length, UInt8.ofNat (p.2.length / 2 ^ 8), UInt8.ofNat p.2.length]) (.cons (t9 rfl) (.cons (t4 rfl) (.cons (t0 rfl) .nil))) (lit3u _ _ _) rfl (by decide) ?_)
 intro bl
 refine JL.ef (Ef.appS elt_122 (t14 rfl) (t0 rfl) (by repeat constructor) (Src.i (by repeat constructor)) (by first | (simp; done) | (simp; omega) | omega | (simp [*]; done) | (simp [*]; omega)) (by first | (simp; done) | (simp; omega) | omega | (simp [*]; done) | (simp [*]; omega)) (by rw [b1s_flatten]; exact bv_one _) (by first | omega | (simp; omega)) (by first | (simp only [maxLen]; omega) | (simp [maxLen]; omega)) ?_)
 intro a3 c4
 refine JL.as (t0 rfl) <| JL.ns <| J.live (K := [(5, _), (7, _), (10, _), (9, _), (8, _), (4, _), (3, _), (2, _), (0, _)]) ⟨lk0, (lk17 rfl), (lk21 rfl), (lk23 rfl), (lk24 rfl), (lk25 rfl), (lk26 rfl), (lk27 rfl), (lk28 rfl), trivial⟩ ?_
 intro ρ5
 refine J.region <| JL.mv (t0 rfl) <| JL.rd ((by first | exact Rd.fld0 fld_64_0 (t2 rfl) | exact Rd.fldz fld_64_0 (t2 rfl))) ?_
 refine JL.rd (Rd.ldN Tryz.isAgg9 (t0 rfl) (by repeat constructor) (by repeat constructor)) ?_
 refine JL.ef (Ef.appStr elt_122 Tryz.underlying9 (t2 rfl) (t0 rfl) (by repeat constructor) (by first | (simp; done) | (simp; omega) | omega | (simp [*]; done) | (simp [*]; omega)) (by first | omega | (simp; omega)) (by first | (simp only [maxLen]; omega) | (simp [maxLen]; omega)) ?_)
 intro a6 c7
 refine JL.as (t0 rfl) <| JL.n2 <| J.region <| JL.mv (t0 rfl) <| JL.rd ((by first | exact Rd.fld0 fld_64_1 (t7 rfl) | exact Rd.fld fld_64_1 (t7 rfl))) ?_
 refine JL.rd (Rd.ldN Tryz.isAgg9 (t0 rfl) (by repeat constructor) (by repeat constructor)) ?_
 refine JL.ef (Ef.appStr elt_122 Tryz.underlying9 (t2 rfl) (t0 rfl) (by repeat constructor) (by first | (simp; done) | (simp; omega) | omega | (simp [*]; done) | (simp [*]; omega)) (by first | omega | (simp; omega)) (by first | (simp only [maxLen]; omega) | (simp [maxLen]; omega)) ?_)
 intro a8 c9
 refine JL.as (t0 rfl) <| JL.nil <| At.blkN <| At.next <| J.region <| JL.rd (Rd.add (t12 rfl) Ev.c (w64 (by omega) (by omega))) ?_
 refine JL.mv (t0 rfl) <| JL.nil ?_
 rw [leafB_step hp]
 refine At.again ((x + 1, a8, c9)) ?_ ?_ ⟨lk0.trans (by first | ((congr 1; omega); done) | with_reducible rfl | (congr 1; omega) | (simp; done) | (simp [*]; done)), (lk2 rfl).trans (by first | ((congr 1; omega); done) | with_reducible rfl | (congr 1; omega) | (simp; done) | (simp [*]; done)), trivial⟩ ⟨(lk15 rfl), (lk16 rfl), (lk17 rfl), (lk18 rfl), (lk19 rfl), (lk20 rfl), trivial⟩ (fun _ => Stars.sel (by repeat constructor))
 show x + 1 ≤ l.length; omega
 show l.length - (x + 1) < l.length - x; omega
 intro hc1
 obtain rfl : x = l.length := by omega
 rw [List.take_length]
 exact J.exit <| At.nextX <| At.loopX <| At.blkX <| At.next <| J.sr <| JL.mv (t8 rfl) <| JL.rd (Rd.len Tryz.runUnderlying85 (t0 rfl)) <| JL.mv (t4 rfl) <| JL.as Ev.c <| JL.as (t2 rfl) <| JL.as (t2 rfl) <| JL.nr <| At.r ((b, c)) (trivial) (ResV.three rfl (t2 rfl) (t1 rfl) (t0 rfl)) rfl
@[simp] theorem sizeI_nil : sizeI [] = 0 := rfl
theorem innerB_snoc {l : List Kd} (p : Kd) (h : l ≠ []) : innerB (l ++ [p]) = innerB l ++ kidB p := by
  cases l with
  | nil => exact absurd rfl h
  | cons q l => simp [innerB]
theorem innerB_step0 {l : List Kd} {p : Kd} (h : l[0]? = some p) : b1s (innerB (l.take 0)) ++ b1s [UInt8.ofNat (p.2 / 2 ^ 24), UInt8.ofNat (p.2 / 2 ^ 16), UInt8.ofNat (p.2 / 2 ^ 8), UInt8.ofNat p.2] = b1s (innerB (l.take (0 + 1))) := by
  rw [take_step h, b1s_append]
  rfl
theorem innerB_stepS {l : List Kd} {x : Nat} {p : Kd} (h : l[x]? = some p) (hx : 0 < x) : b1s (innerB (l.take x)) ++ b1s [UInt8.ofNat (p.2 / 2 ^ 24), UInt8.ofNat (p.2 / 2 ^ 16), UInt8.ofNat (p.2 / 2 ^ 8), UInt8.ofNat p.2] ++ b1s [UInt8.ofNat p.1.length] ++ b1s p.1 = b1s (innerB (l.take (x + 1))) := by
  have h1 := (List.getElem?_eq_some_iff.1 h).1
  have hn : l.take x ≠ [] := fun e => by
    have := congrArg List.length e
    rw [List.length_take] at this
    simp only [List.length_nil] at this
    omega
  rw [take_step h, innerB_snoc p hn, b1s_append, b1s_append, b1s_append]
  simp [kidB, be4]
theorem sizeI_step0 {l : List Kd} {p : Kd} (h : l[0]? = some p) : sizeI (l.take (0 + 1)) = sizeI (l.take 0) + 4 := by
  rw [take_step h]; rfl
theorem sizeI_stepS {l : List Kd} {x : Nat} {p : Kd} (h : l[x]? = some p) (hx : 0 < x) : sizeI (l.take (x + 1)) = sizeI (l.take x) + 5 + p.1.length := by
  have h1 := (List.getElem?_eq_some_iff.1 h).1
  have hn : l.take x ≠ [] := fun e => by
    have := congrArg List.length e
    rw [List.length_take] at this
    simp only [List.length_nil] at this
    omega
  unfold sizeI
  rw [take_step h, innerB_snoc p hn, List.length_append, kidB_length]
  omega
theorem sizeI_take (l : List Kd) (x : Nat) : sizeI (l.take x) ≤ sizeI l := by
  cases x with
  | zero => exact Nat.zero_le _
  | succ x =>
    cases l with
    | nil => exact Nat.le_refl _
    | cons p l =>
      rw [List.take_succ_cons, sizeI_cons, sizeI_cons]
      have h : l = l.take x ++ l.drop x := (List.take_append_drop x l).symm
      have h2 : (l.flatMap kidB).length = ((l.take x).flatMap kidB).length + ((l.drop x).flatMap kidB).length := by
        conv => lhs; rw [h, List.flatMap_append, List.length_append]
      omega
theorem mth_lbytes (v : Value) : ∀ w, (Go.method (Tryz.prog.types.size + Made.depth) 85 v "replevin/btree.bytes").run Tryz.prog w = .ok (132, v) w := fun w => by kernel_rfl
theorem mth_ibytes (v : Value) : ∀ w, (Go.method (Tryz.prog.types.size + Made.depth) 89 v "replevin/btree.bytes").run Tryz.prog w = .ok (135, v) w := fun w => by kernel_rfl
theorem mth_lfirst (v : Value) : ∀ w, (Go.method (Tryz.prog.types.size + Made.depth) 85 v "replevin/btree.first").run Tryz.prog w = .ok (133, v) w := fun w => by kernel_rfl
theorem mth_ifirst (v : Value) : ∀ w, (Go.method (Tryz.prog.types.size + Made.depth) 89 v "replevin/btree.first").run Tryz.prog w = .ok (136, v) w := fun w => by kernel_rfl
theorem mth_lsmall (v : Value) : ∀ w, (Go.method (Tryz.prog.types.size + Made.depth) 85 v "replevin/btree.small").run Tryz.prog w = .ok (134, v) w := fun w => by kernel_rfl
theorem mth_ismall (v : Value) : ∀ w, (Go.method (Tryz.prog.types.size + Made.depth) 89 v "replevin/btree.small").run Tryz.prog w = .ok (137, v) w := fun w => by kernel_rfl

set_option maxHeartbeats 400000 in
theorem ibytes_any (a : Option Addr) (cap : Nat) (l : List Kd) (hs : sizeI l ≤ 1048576) (hl : l.length ≤ 1048576) :
    Fn Tryz.prog 135 [.slice a l.length cap] [rowR a 2 (l.map kdc)] (X := Option Addr × Nat) (fun _ => True) (fun x => .tuple #[.int .i64 2, .int .i64 l.length, .slice x.1 (sizeI l) x.2]) (fun x => [rowR a 2 (l.map kdc), row x.1 x.2 5 1 (b1s (innerB l))]) := by
 refine Fn.mk' (n := 50) (l := [(0, .slice a l.length cap)]) (fn := Tryz.f135) Tryz.func135 (by kernel_rfl) rfl rfl (by simp) rfl ?_
 intro h0 w0
 refine J.sr <| JL.as Ev.c <| JL.as Ev.c <| JL.as Ev.c <| JL.n4 <| JL.as Ev.c <| JL.n5 <| JL.mv (t4 rfl) <| JL.rd (Rd.len Tryz.runUnderlying89 (t0 rfl)) <| JL.mv Ev.c <| JL.nb <| J.loop (X := Nat × Option Addr × Nat) (fun (x : Nat × Option Addr × Nat) => [(10, .int .i64 (x.1 : Int)), (5, .slice x.2.1 (sizeI (l.take x.1)) x.2.2)]) (K := [(9, _), (8, _), (4, _), (3, _), (2, _), (0, _)]) (fun x => [rowR a 2 (l.map kdc), row x.2.1 x.2.2 5 1 (b1s (innerB (l.take x.1)))]) (fun x => x.1 ≤ l.length) (fun x => l.length - x.1) ((0, none, 0)) ?_ ⟨lk0.trans (by first | ((congr 1; omega); done) | with_reducible rfl | (congr 1; omega) | (simp; done) | (simp [*]; done)), (lk3 rfl).trans (by first | ((congr 1; omega); done) | with_reducible rfl | (congr 1; omega) | (simp; done) | (simp [*]; done)), trivial⟩ ⟨(lk1 rfl), (lk2 rfl), (lk4 rfl), (lk5 rfl), (lk6 rfl), (lk7 rfl), trivial⟩ (fun _ s => Stars.sel (by repeat constructor) (row_nil 5 1 s)) ?_
 exact Nat.zero_le _
 rintro ⟨x, b, c⟩ ρ hk
 simp only [cA, nA]
 dsimp only at hk ⊢
 refine J.sr <| JL.rd (Rd.lss (t0 rfl) (t2 rfl)) <| JL.ns <| J.condD (t0 rfl) ?_ ?_
 intro hc1
 obtain ⟨p, hp⟩ : ∃ p, l[x]? = some p := ⟨_, List.getElem?_eq_getElem (by omega)⟩
 have hx : (l.map kdc)[(x : Int).toNat]? = some [str p.1, .int .i64 (p.2 : Int)] := by simp [hp, kdc]
 have hst := sizeI_take l (x + 1)
 have hsz : (b1s (innerB (l.take x))).length = sizeI (l.take x) := by rw [b1s_length]; rfl
 have hgr : sizeI (l.take x) + 4 ≤ sizeI (l.take (x + 1)) := by
   by_cases h0 : x = 0
   · subst h0; rw [sizeI_step0 hp]; exact Nat.le_refl _
   · rw [sizeI_stepS hp (by omega)]; omega
 refine J.skip <| At.next <| J.seq <| J.block <| J.sr <| JL.mv (t1 rfl) <| JL.rd (Rd.sIdx Tryz.runUnderlying89 Tryz.sizeOf91 (t5 rfl) (t2 rfl) (Src.i (by repeat constructor)) (by first | (simp; done) | (simp; omega) | omega | (simp [*]; done) | (simp [*]; omega)) (by omega) (by omega)) ?_
 refine JL.rd (Rd.sLdA Tryz.isAgg91 Tryz.sizeOf91 (t0 rfl) (Src.i (by repeat constructor)) hx) ?_
 refine JL.ef (Ef.alloc Tryz.zeroValue91 rfl ?_)
 intro b2
 refine JL.as (t3 rfl) <| JL.ef0 (Ef.stB Tryz.sizeOf91 (t1 rfl) (t2 rfl) (by repeat constructor) (by repeat constructor) (by first | rfl | assumption | simp_all) (by first | rfl | assumption | simp_all) (by first | exact bv_one _ | exact cons_one rfl (bv_one _) | (simp [Value.oneCell']; done) | (simp [Value.oneCell', str]; done)) (by decide) ?_)
 refine JL.n4 <| JL.mv (t7 rfl) <| JL.rd ((by first | exact Rd.fld0 fld_91_1 (t2 rfl) | exact Rd.fld fld_91_1 (t2 rfl))) ?_
 refine JL.rd (Rd.ldN Tryz.isAgg3 (t0 rfl) (by repeat constructor) (by repeat constructor)) ?_
 refine JL.rd (Rd.shrN (n := 24) (t0 rfl) Ev.c (by decide)) ?_
 refine JL.rd (Rd.conv8 (t0 rfl) (fun w => ⟨_, Tryz.runUnderlying3 w⟩) Tryz.runUnderlying5) <| JL.rd ((by first | exact Rd.fld0 fld_91_1 (t6 rfl) | exact Rd.fld fld_91_1 (t6 rfl))) ?_
 refine JL.rd (Rd.ldN Tryz.isAgg3 (t0 rfl) (by repeat constructor) (by repeat constructor)) ?_
 refine JL.rd (Rd.shrN (n := 16) (t0 rfl) Ev.c (by decide)) ?_
 refine JL.rd (Rd.conv8 (t0 rfl) (fun w => ⟨_, Tryz.runUnderlying3 w⟩) Tryz.runUnderlying5) <| JL.rd ((by first | exact Rd.fld0 fld_91_1 (t10 rfl) | exact Rd.fld fld_91_1 (t10 rfl))) ?_
 refine JL.rd (Rd.ldN Tryz.isAgg3 (t0 rfl) (by repeat constructor) (by repeat constructor)) ?_
 refine JL.rd (Rd.shrN (n := 8) (t0 rfl) Ev.c (by decide)) ?_
 refine JL.rd (Rd.conv8 (t0 rfl) (fun w => ⟨_, Tryz.runUnderlying3 w⟩) Tryz.runUnderlying5) <| JL.rd ((by first | exact Rd.fld0 fld_91_1 (t14 rfl) | exact Rd.fld fld_91_1 (t14 rfl))) ?_
 refine JL.rd (Rd.ldN Tryz.isAgg3 (t0 rfl) (by repeat constructor) (by repeat constructor)) ?_
 refine JL.rd (Rd.conv8 (t0 rfl) (fun w => ⟨_, Tryz.runUnderlying3 w⟩) Tryz.runUnderlying5) <| JL.ef (Ef.byLitN (l := [UInt8.ofNat (p.2 / 2 ^ 24), UInt8.ofNat (p.2 / 2 ^ 16), UInt8.ofNat (p.2 / 2 ^ 8), UInt8.ofNat p.2]) (.cons (t11 rfl) (.cons (t7 rfl) (.cons (t3 rfl) (.cons (t0 rfl) .nil)))) (lit4u _ _ _ _) rfl (by decide) ?_)
 intro bl
 refine JL.ef (Ef.appS elt_122 (t16 rfl) (t0 rfl) (by repeat constructor) (Src.i (by repeat constructor)) (by first | (simp; done) | (simp; omega) | omega | (simp [*]; done) | (simp [*]; omega)) (by first | (simp; done) | (simp; omega) | omega | (simp [*]; done) | (simp [*]; omega)) (by rw [b1s_flatten]; exact bv_one _) (by first | omega | (simp; omega)) (by first | (simp only [maxLen]; omega) | (simp [maxLen]; omega)) ?_)
 intro a3 c4
 refine JL.as (t0 rfl) <| JL.ns <| J.live (K := [(5, _), (6, _), (7, _), (10, _), (9, _), (8, _), (4, _), (3, _), (2, _), (0, _)]) ⟨lk0, (lk19 rfl), (lk20 rfl), (lk25 rfl), (lk27 rfl), (lk28 rfl), (lk29 rfl), (lk30 rfl), (lk31 rfl), (lk32 rfl), trivial⟩ ?_
 intro ρ5
 refine J.region <| JL.mv (t1 rfl) <| JL.rd (Rd.gtr (t0 rfl) Ev.c) <| JL.n2 <| J.condD (t0 rfl) ?_ ?_
 intro hc6
 have hx0 : 0 < x := by omega
 have hss := sizeI_stepS hp hx0
 refine J.sr <| JL.mv (t2 rfl) <| JL.rd ((by first | exact Rd.fld0 fld_91_0 (t5 rfl) | exact Rd.fldz fld_91_0 (t5 rfl))) ?_
 refine JL.rd (Rd.ldN Tryz.isAgg9 (t0 rfl) (by repeat constructor) (by repeat constructor)) ?_
 refine JL.rd (Rd.lenStr Tryz.runUnderlying9 (t0 rfl)) <| JL.rd (Rd.conv8 (t0 rfl) (fun w => ⟨_, Tryz.runUnderlying3 w⟩) Tryz.runUnderlying5) <| JL.ef (Ef.byLit1 (c := (UInt8.ofNat p.1.length)) elt_122 (t0 rfl) ?_)
 intro b8
 refine JL.ef (Ef.appS elt_122 (t5 rfl) (t0 rfl) (by repeat constructor) (Src.i (by repeat constructor)) (by first | (simp; done) | (simp; omega) | omega | (simp [*]; done) | (simp [*]; omega)) (by first | (simp; done) | (simp; omega) | omega | (simp [*]; done) | (simp [*]; omega)) (by rw [b1s_flatten]; exact bv_one _) (by first | omega | (simp; omega)) (by first | (simp only [maxLen]; omega) | (simp [maxLen]; omega)) ?_)
 intro a9 c10
 refine JL.as (t0 rfl) <| JL.n2 <| J.region <| JL.mv (t0 rfl) <| JL.rd ((by first | exact Rd.fld0 fld_91_0 (t13 rfl) | exact Rd.fldz fld_91_0 (t13 rfl))) ?_
 refine JL.rd (Rd.ldN Tryz.isAgg9 (t0 rfl) (by repeat constructor) (by repeat constructor)) ?_
 refine JL.ef (Ef.appStr elt_122 Tryz.underlying9 (t2 rfl) (t0 rfl) (by repeat constructor) (by first | (simp; done) | (simp; omega) | omega | (simp [*]; done) | (simp [*]; omega)) (by first | omega | (simp; omega)) (by first | (simp only [maxLen]; omega) | (simp [maxLen]; omega)) ?_)
 intro a11 c12
 refine JL.as (t0 rfl) <| JL.nil <| At.blkN <| At.next <| J.region <| JL.rd (Rd.add (t18 rfl) Ev.c (w64 (by omega) (by omega))) ?_
 refine JL.mv (t0 rfl) <| JL.nil ?_
 first | rw [innerB_stepS hp hx0] | rw [innerB_step0 hp]
 refine At.again ((x + 1, a11, c12)) ?_ ?_ ⟨lk0.trans (by first | ((congr 1; omega); done) | with_reducible rfl | (congr 1; omega) | (simp; done) | (simp [*]; done)), (lk2 rfl).trans (by first | ((congr 1; omega); done) | with_reducible rfl | (congr 1; omega) | (simp; done) | (simp [*]; done)), trivial⟩ ⟨(lk21 rfl), (lk22 rfl), (lk23 rfl), (lk24 rfl), (lk25 rfl), (lk26 rfl), trivial⟩ (fun _ => Stars.sel (by repeat constructor))
 first | (show x + 1 ≤ l.length; omega) | (show 0 + 1 ≤ l.length; omega)
 first | (show l.length - (x + 1) < l.length - x; omega) | (show l.length - (0 + 1) < l.length - 0; omega)
 intro hc6
 obtain rfl : x = 0 := by omega
 have hss := sizeI_step0 hp
 refine J.skip <| At.blkN <| At.next <| J.region <| JL.rd (Rd.add (t5 rfl) Ev.c (w64 (by omega) (by omega))) ?_
 refine JL.mv (t0 rfl) <| JL.nil ?_
 first | rw [innerB_stepS hp hx0] | rw [innerB_step0 hp]
 refine At.again ((0 + 1, a3, c4)) ?_ ?_ ⟨lk0.trans (by first | ((congr 1; omega); done) | with_reducible rfl | (congr 1; omega) | (simp; done) | (simp [*]; done)), (lk4 rfl).trans (by first | ((congr 1; omega); done) | with_reducible rfl | (congr 1; omega) | (simp; done) | (simp [*]; done)), trivial⟩ ⟨(lk8 rfl), (lk9 rfl), (lk10 rfl), (lk11 rfl), (lk12 rfl), (lk13 rfl), trivial⟩ (fun _ => Stars.sel (by repeat constructor))
 first | (show x + 1 ≤ l.length; omega) | (show 0 + 1 ≤ l.length; omega)
 first | (show l.length - (x + 1) < l.length - x; omega) | (show l.length - (0 + 1) < l.length - 0; omega)
 intro hc1
 obtain rfl : x = l.length := by omega
 rw [List.take_length]
 exact J.exit <| At.nextX <| At.loopX <| At.blkX <| At.next <| J.sr <| JL.mv (t8 rfl) <| JL.rd (Rd.len Tryz.runUnderlying89 (t0 rfl)) <| JL.mv (t4 rfl) <| JL.as Ev.c <| JL.as (t2 rfl) <| JL.as (t2 rfl) <| JL.nr <| At.r ((b, c)) (trivial) (ResV.three rfl (t2 rfl) (t1 rfl) (t0 rfl)) rfl

set_option maxHeartbeats 400000 in
theorem lfirst_any (a : Option Addr) (cap : Nat) (l : List It) (p : It) (hp : l[0]? = some p) :
    Fn Tryz.prog 133 [.slice a l.length cap] [rowR a 2 (l.map itc)] (X := Unit) (fun _ => True) (fun _ => str p.1) (fun _ => [rowR a 2 (l.map itc)]) := by
 refine Fn.mk' (n := 7) (l := [(0, .slice a l.length cap)]) (fn := Tryz.f133) Tryz.func133 (by kernel_rfl) rfl rfl (by simp) rfl ?_
 intro h0 w0
 have hl0 : 0 < l.length := (List.getElem?_eq_some_iff.1 hp).1
 have hx : (l.map itc)[(0 : Int).toNat]? = some [str p.1, str p.2] := by rw [show (0 : Int).toNat = 0 from rfl, List.getElem?_map, hp]; rfl
 refine J.sr <| JL.as Ev.c <| JL.n4 <| JL.mv (t1 rfl) <| JL.rd (Rd.sIdx Tryz.runUnderlying85 Tryz.sizeOf64 (t0 rfl) Ev.c (Src.i (by repeat constructor)) (by first | (simp; done) | (simp; omega) | omega | (simp [*]; done) | (simp [*]; omega)) (by omega) (by omega)) ?_
 refine JL.rd (Rd.sFld0 fld_64_0 (t0 rfl) (Src.i (by repeat constructor)) (List.getElem?_eq_some_iff.1 hx).1) ?_
 refine JL.rd (Rd.sLd Tryz.isAgg9 (t0 rfl) (Src.i (by repeat constructor)) hx rfl) ?_
 exact JL.as (t0 rfl) <| JL.nr <| At.r (()) (trivial) (ResV.one rfl (t0 rfl)) rfl

set_option maxHeartbeats 400000 in
theorem lsize_any (a : Option Addr) (cap : Nat) (l : List It) (hs : sizeL l ≤ 1048576) (hl : l.length ≤ 1048576) :
    Fn Tryz.prog 82 [.iface 85 (.slice a l.length cap)] [rowR a 2 (l.map itc)] (X := Unit) (fun _ => True) (fun _ => .int .i64 (sizeL l)) (fun _ => [rowR a 2 (l.map itc)]) := by
 refine Fn.mk' (n := 14) (l := [(0, .iface 85 (.slice a l.length cap))]) (fn := Tryz.f82) Tryz.func82 (by kernel_rfl) rfl rfl (by simp) rfl ?_
 intro h0 w0
 refine J.sr <| JL.as Ev.c <| JL.n4 <| JL.mv (t1 rfl) <| JL.ef (Ef.callm (t0 rfl) (mth_lbytes _) .nil (lbytes_any a cap l hs hl) (by repeat constructor) ?_)
 rintro ⟨b, c⟩ -
 simp only [cA, nA]
 exact JL.mv (t0 rfl) <| JL.e (t0 rfl) <| JL.e (t1 rfl) <| JL.e (t2 rfl) <| JL.as (t2 rfl) <| JL.as (t2 rfl) <| JL.as (t2 rfl) <| JL.n4 <| JL.mv (t0 rfl) <| JL.rd (Rd.len Tryz.runUnderlying122 (t0 rfl)) <| JL.as (t0 rfl) <| JL.nr <| At.r (()) (trivial) (ResV.one rfl (t0 rfl)) rfl

set_option maxHeartbeats 400000 in
theorem lfits_any (a : Option Addr) (cap : Nat) (l : List It) (hs : sizeL l ≤ 1048576) (hl : l.length ≤ 1048576) :
    Fn Tryz.prog 79 [.iface 85 (.slice a l.length cap)] [rowR a 2 (l.map itc)] (X := Unit) (fun _ => True) (fun _ => .bool (decide ((sizeL l : Int) ≤ 505))) (fun _ => [rowR a 2 (l.map itc)]) := by
 refine Fn.mk' (n := 15) (l := [(0, .iface 85 (.slice a l.length cap))]) (fn := Tryz.f79) Tryz.func79 (by kernel_rfl) rfl rfl (by simp) rfl ?_
 intro h0 w0
 refine J.sr <| JL.as Ev.c <| JL.n4 <| JL.mv (t1 rfl) <| JL.ef (Ef.callm (t0 rfl) (mth_lbytes _) .nil (lbytes_any a cap l hs hl) (by repeat constructor) ?_)
 rintro ⟨b, c⟩ -
 simp only [cA, nA]
 exact JL.mv (t0 rfl) <| JL.e (t0 rfl) <| JL.e (t1 rfl) <| JL.e (t2 rfl) <| JL.as (t2 rfl) <| JL.as (t2 rfl) <| JL.as (t2 rfl) <| JL.n4 <| JL.mv (t0 rfl) <| JL.rd (Rd.len Tryz.runUnderlying122 (t0 rfl)) <| JL.rd (Rd.leq (t0 rfl) Ev.c) <| JL.as (t0 rfl) <| JL.nr <| At.r (()) (trivial) (ResV.one rfl (t0 rfl)) rfl

set_option maxHeartbeats 400000 in
theorem ifirst_any (a : Option Addr) (cap : Nat) (l : List Kd) (p : Kd) (hp : l[0]? = some p) :
    Fn Tryz.prog 136 [.slice a l.length cap] [rowR a 2 (l.map kdc)] (X := Unit) (fun _ => True) (fun _ => str p.1) (fun _ => [rowR a 2 (l.map kdc)]) := by
 refine Fn.mk' (n := 7) (l := [(0, .slice a l.length cap)]) (fn := Tryz.f136) Tryz.func136 (by kernel_rfl) rfl rfl (by simp) rfl ?_
 intro h0 w0
 have hl0 : 0 < l.length := (List.getElem?_eq_some_iff.1 hp).1
 have hx : (l.map kdc)[(0 : Int).toNat]? = some [str p.1, .int .i64 (p.2 : Int)] := by rw [show (0 : Int).toNat = 0 from rfl, List.getElem?_map, hp]; rfl
 refine J.sr <| JL.as Ev.c <| JL.n4 <| JL.mv (t1 rfl) <| JL.rd (Rd.sIdx Tryz.runUnderlying89 Tryz.sizeOf91 (t0 rfl) Ev.c (Src.i (by repeat constructor)) (by first | (simp; done) | (simp; omega) | omega | (simp [*]; done) | (simp [*]; omega)) (by omega) (by omega)) ?_
 refine JL.rd (Rd.sFld0 fld_91_0 (t0 rfl) (Src.i (by repeat constructor)) (List.getElem?_eq_some_iff.1 hx).1) ?_
 refine JL.rd (Rd.sLd Tryz.isAgg9 (t0 rfl) (Src.i (by repeat constructor)) hx rfl) ?_
 exact JL.as (t0 rfl) <| JL.nr <| At.r (()) (trivial) (ResV.one rfl (t0 rfl)) rfl

set_option maxHeartbeats 400000 in
theorem isize_any (a : Option Addr) (cap : Nat) (l : List Kd) (hs : sizeI l ≤ 1048576) (hl : l.length ≤ 1048576) :
    Fn Tryz.prog 82 [.iface 89 (.slice a l.length cap)] [rowR a 2 (l.map kdc)] (X := Unit) (fun _ => True) (fun _ => .int .i64 (sizeI l)) (fun _ => [rowR a 2 (l.map kdc)]) := by
 refine Fn.mk' (n := 14) (l := [(0, .iface 89 (.slice a l.length cap))]) (fn := Tryz.f82) Tryz.func82 (by kernel_rfl) rfl rfl (by simp) rfl ?_
 intro h0 w0
 refine J.sr <| JL.as Ev.c <| JL.n4 <| JL.mv (t1 rfl) <| JL.ef (Ef.callm (t0 rfl) (mth_ibytes _) .nil (ibytes_any a cap l hs hl) (by repeat constructor) ?_)
 rintro ⟨b, c⟩ -
 simp only [cA, nA]
 exact JL.mv (t0 rfl) <| JL.e (t0 rfl) <| JL.e (t1 rfl) <| JL.e (t2 rfl) <| JL.as (t2 rfl) <| JL.as (t2 rfl) <| JL.as (t2 rfl) <| JL.n4 <| JL.mv (t0 rfl) <| JL.rd (Rd.len Tryz.runUnderlying122 (t0 rfl)) <| JL.as (t0 rfl) <| JL.nr <| At.r (()) (trivial) (ResV.one rfl (t0 rfl)) rfl

set_option maxHeartbeats 400000 in
theorem ifits_any (a : Option Addr) (cap : Nat) (l : List Kd) (hs : sizeI l ≤ 1048576) (hl : l.length ≤ 1048576) :
    Fn Tryz.prog 79 [.iface 89 (.slice a l.length cap)] [rowR a 2 (l.map kdc)] (X := Unit) (fun _ => True) (fun _ => .bool (decide ((sizeI l : Int) ≤ 505))) (fun _ => [rowR a 2 (l.map kdc)]) := by
 refine Fn.mk' (n := 15) (l := [(0, .iface 89 (.slice a l.length cap))]) (fn := Tryz.f79) Tryz.func79 (by kernel_rfl) rfl rfl (by simp) rfl ?_
 intro h0 w0
 refine J.sr <| JL.as Ev.c <| JL.n4 <| JL.mv (t1 rfl) <| JL.ef (Ef.callm (t0 rfl) (mth_ibytes _) .nil (ibytes_any a cap l hs hl) (by repeat constructor) ?_)
 rintro ⟨b, c⟩ -
 simp only [cA, nA]
 exact JL.mv (t0 rfl) <| JL.e (t0 rfl) <| JL.e (t1 rfl) <| JL.e (t2 rfl) <| JL.as (t2 rfl) <| JL.as (t2 rfl) <| JL.as (t2 rfl) <| JL.n4 <| JL.mv (t0 rfl) <| JL.rd (Rd.len Tryz.runUnderlying122 (t0 rfl)) <| JL.rd (Rd.leq (t0 rfl) Ev.c) <| JL.as (t0 rfl) <| JL.nr <| At.r (()) (trivial) (ResV.one rfl (t0 rfl)) rfl
theorem tw_uniq {α : Type} {p : α → Bool} : ∀ {m : List α} {r : Nat}, r ≤ m.length → (∀ i a, i < r → m[i]? = some a → p a = true) → (∀ a, m[r]? = some a → p a = false) → (m.takeWhile p).length = r := by
  intro m
  induction m with
  | nil => intro r h _ _; simp at h; simp [h]
  | cons a m ih =>
    intro r h h1 h2
    cases r with
    | zero => rw [List.takeWhile_cons, h2 a rfl]; rfl
    | succ r =>
      rw [List.takeWhile_cons, h1 0 a (by omega) rfl]
      simp only [if_true, List.length_cons]
      rw [ih (by simpa using h) (fun i b hi hb => h1 (i + 1) b (by omega) (by simpa using hb)) (fun b hb => h2 b (by simpa using hb))]
def findP (l : List It) (key : Bs) (i : Nat) : Bool := !slt (l.getD i ([], [])).1 key
theorem getD_of {α : Type} {l : List α} {i : Nat} {a z : α} (h : l[i]? = some a) : l.getD i z = a := by rw [List.getD_eq_getElem?_getD, h]; rfl
theorem find_uniq {l : List It} {key : Bs} {r : Nat} (h : r ≤ l.length) (h1 : ∀ i, i < r → findP l key i = false) (h2 : ∀ i, r ≤ i → i < l.length → findP l key i = true) : r = findF l key := by
  refine (tw_uniq h (fun i a hi ha => ?_) (fun a ha => ?_)).symm
  · have := h1 i hi
    unfold findP at this
    rw [getD_of ha] at this
    simpa using this
  · have := h2 r (Nat.le_refl _) (List.getElem?_eq_some_iff.1 ha).1
    unfold findP at this
    rw [getD_of ha] at this
    simpa using this
theorem pair_get {α : Type} {R : α → α → Prop} {l : List α} (hp : l.Pairwise R) {i j : Nat} {a b : α} (hij : i < j) (ha : l[i]? = some a) (hb : l[j]? = some b) : R a b := by
  obtain ⟨h1, rfl⟩ := List.getElem?_eq_some_iff.1 ha
  obtain ⟨h2, rfl⟩ := List.getElem?_eq_some_iff.1 hb
  exact List.pairwise_iff_getElem.1 hp i j h1 h2 hij
theorem find_mono {l : List It} {key : Bs} (hs : sorted l) : ∀ i j, i ≤ j → j < l.length → findP l key i = true → findP l key j = true := by
  intro i j hij hj h
  obtain ⟨a, ha⟩ : ∃ a, l[i]? = some a := ⟨_, List.getElem?_eq_getElem (by omega)⟩
  obtain ⟨b, hb⟩ : ∃ b, l[j]? = some b := ⟨_, List.getElem?_eq_getElem hj⟩
  unfold findP at h ⊢
  rw [getD_of ha] at h
  rw [getD_of hb]
  by_cases e : i = j
  · subst e; rw [ha] at hb; cases hb; exact h
  · have hab := pair_get hs (by omega : i < j) ha hb
    cases hk : slt b.1 key
    · rfl
    · rw [slt_trans hab hk] at h; exact h
theorem has_lt {l : List It} {key : Bs} (h : findF l key < l.length) : hasF l key = decide ((l.getD (findF l key) ([], [])).1 = key) := by
  unfold hasF
  rw [List.getD_eq_getElem?_getD, List.getElem?_eq_getElem h]
  simp
theorem has_ge {l : List It} {key : Bs} (h : ¬ findF l key < l.length) : hasF l key = false := by
  unfold hasF
  rw [List.getElem?_eq_none (by omega)]
  simp
def childP (l : List Kd) (key : Bs) (i : Nat) : Bool := slt key (l.getD (i + 1) ([], 0)).1
theorem child_uniq {l : List Kd} {key : Bs} {r : Nat} (h : r ≤ l.length - 1) (h1 : ∀ i, i < r → childP l key i = false) (h2 : ∀ i, r ≤ i → i < l.length - 1 → childP l key i = true) : r = childF l key := by
  have ht : ∀ i (a : Kd), l.tail[i]? = some a → l.getD (i + 1) ([], 0) = a := fun i a ha => getD_of (by rw [List.getElem?_tail] at ha; exact ha)
  refine (tw_uniq (by simpa using h) (fun i a hi ha => ?_) (fun a ha => ?_)).symm
  · have := h1 i hi
    unfold childP at this
    rw [ht i a ha] at this
    simp [this]
  · have := h2 r (Nat.le_refl _) (by have := (List.getElem?_eq_some_iff.1 ha).1; simpa using this)
    unfold childP at this
    rw [ht r a ha] at this
    simp [this]
theorem child_mono {l : List Kd} {key : Bs} (hs : l.tail.Pairwise fun a b => slt a.1 b.1 = true) : ∀ i j, i ≤ j → j < l.length - 1 → childP l key i = true → childP l key j = true := by
  intro i j hij hj h
  obtain ⟨a, ha⟩ : ∃ a, l.tail[i]? = some a := ⟨_, List.getElem?_eq_getElem (by simp; omega)⟩
  obtain ⟨b, hb⟩ : ∃ b, l.tail[j]? = some b := ⟨_, List.getElem?_eq_getElem (by simp; omega)⟩
  have ht : ∀ i (a : Kd), l.tail[i]? = some a → l.getD (i + 1) ([], 0) = a := fun i a ha => getD_of (by rw [List.getElem?_tail] at ha; exact ha)
  unfold childP at h ⊢
  rw [ht i a ha] at h
  rw [ht j b hb]
  by_cases e : i = j
  · subst e; rw [ha] at hb; cases hb; exact h
  · exact slt_trans h (pair_get hs (by omega : i < j) ha hb)

set_option maxHeartbeats 400000 in
theorem search_any (n : Nat) (hn : n ≤ 1048576) (gf : Nat) (caps : List Value) (f : Nat → Bool) (A : Assn) (hm : ∀ i j, i ≤ j → j < n → f i = true → f j = true) (hF : ∀ i, i < n → Fn Tryz.prog gf (.int .i64 (i : Int) :: caps) [A] (X := Unit) (fun _ => True) (fun _ => .bool (f i)) (fun _ => [A])) :
    Fn Tryz.prog 60 [.int .i64 (n : Int), .func (.func gf) #[] caps.toArray] [A] (X := Nat) (fun r => r ≤ n ∧ (∀ i, i < r → f i = false) ∧ (∀ i, r ≤ i → i < n → f i = true)) (fun r => .int .i64 (r : Int)) (fun _ => [A]) := by
 refine Fn.mk' (n := 26) (l := [(0, .int .i64 (n : Int)), (1, .func (.func gf) #[] caps.toArray)]) (fn := Tryz.f60) Tryz.func60 (by kernel_rfl) rfl rfl (by simp) rfl ?_
 intro h0 w0
 refine J.sr <| JL.as Ev.c <| JL.n4 <| JL.mv (t1 rfl) <| JL.as Ev.c <| JL.as (t1 rfl) <| JL.ns <| J.block <| J.loop (X := Nat × Nat) (fun (x : Nat × Nat) => [(5, .int .i64 (x.1 : Int)), (6, .int .i64 (x.2 : Int))]) (K := [(4, _), (1, _)]) (fun x => [A]) (fun x => x.1 ≤ x.2 ∧ x.2 ≤ n ∧ (∀ i, i < x.1 → f i = false) ∧ (∀ i, x.2 ≤ i → i < n → f i = true)) (fun x => x.2 - x.1) ((0, n)) ?_ ⟨(lk1 rfl).trans (by first | with_reducible rfl | (congr 1; omega) | (simp; done) | (simp [*]; done)), lk0.trans (by first | with_reducible rfl | (congr 1; omega) | (simp; done) | (simp [*]; done)), trivial⟩ ⟨(lk3 rfl), (lk5 rfl), trivial⟩ (fun _ => Stars.sel (by repeat constructor)) ?_
 exact ⟨Nat.zero_le _, Nat.le_refl _, fun i h => absurd h (Nat.not_lt_zero _), fun i h1 h2 => absurd h2 (Nat.not_lt.2 h1)⟩
 rintro ⟨i, j⟩ ρ ⟨h1, h2, h3, h4⟩
 simp only [cA, nA]
 dsimp only at h1 h2 h3 h4 ⊢
 refine J.seq <| J.sr <| JL.mv (t0 rfl) <| JL.mv (t2 rfl) <| JL.rd (Rd.lss (t1 rfl) (t0 rfl)) <| JL.n2 <| J.condD (t0 rfl) ?_ ?_
 intro hc1
 refine J.skip <| At.next <| J.block <| J.sr <| JL.mv (t3 rfl) <| JL.mv (t5 rfl) <| JL.rd (Rd.add (t1 rfl) (t0 rfl) (w64 (by omega) (by omega))) ?_
 refine JL.rd (Rd.conv (t0 rfl) (fun w => ⟨_, Tryz.runUnderlying3 w⟩) Tryz.runUnderlying145 (wu64 (by omega) (by omega))) ?_
 refine JL.rd (Rd.shrN (a := i + j) (n := 1) (t0 rfl) Ev.c (by decide)) ?_
 refine JL.rd (Rd.conv (t0 rfl) (fun w => ⟨_, Tryz.runUnderlying145 w⟩) Tryz.runUnderlying3 (w64 (by omega) (by omega))) ?_
 refine JL.as (t0 rfl) <| JL.n4 <| JL.mv (t13 rfl) <| JL.mv (t1 rfl) <| JL.ef (Ef.callv (t1 rfl) (.cons (t0 rfl) .nil) (hF ((i + j) / 2 ^ 1) (by omega)) (by repeat constructor) ?_)
 rintro - -
 simp only [cA, nA]
 refine JL.rd (Rd.not (t0 rfl)) <| JL.n2 <| J.cond (t0 rfl) ?_ ?_
 intro hc2
 have hf : f ((i + j) / 2 ^ 1) = false := by simpa using hc2
 have hlo : ∀ k, k < (i + j) / 2 ^ 1 + 1 → f k = false := fun k hk => by
   cases hc : f k
   · rfl
   · rw [hm k ((i + j) / 2 ^ 1) (by omega) (by omega) hc] at hf; cases hf
 refine J.region <| JL.mv (t4 rfl) <| JL.rd (Rd.add (t0 rfl) Ev.c (w64 (by omega) (by omega))) ?_
 refine JL.as (t0 rfl) <| JL.nil <| At.blkN <| At.again (((i + j) / 2 ^ 1 + 1, j)) ?_ ?_ ⟨lk0.trans (by first | with_reducible rfl | (congr 1; omega) | (simp; done) | (simp [*]; done)), (lk18 rfl).trans (by first | with_reducible rfl | (congr 1; omega) | (simp; done) | (simp [*]; done)), trivial⟩ ⟨(lk19 rfl), (lk20 rfl), trivial⟩ (fun _ => Stars.sel (by repeat constructor))
 first | exact ⟨by show (i + j) / 2 ^ 1 + 1 ≤ j; omega, h2, hlo, h4⟩ | exact ⟨by show i ≤ (i + j) / 2 ^ 1; omega, by show (i + j) / 2 ^ 1 ≤ n; omega, h3, hhi⟩
 first | (show j - ((i + j) / 2 ^ 1 + 1) < j - i; omega) | (show (i + j) / 2 ^ 1 - i < j - i; omega)
 intro hc2
 have hf : f ((i + j) / 2 ^ 1) = true := by simpa using hc2
 have hhi : ∀ k, (i + j) / 2 ^ 1 ≤ k → k < n → f k = true := fun k hk hkn => hm _ k hk hkn hf
 refine J.region <| JL.mv (t4 rfl) <| JL.as (t0 rfl) <| JL.nil <| At.blkN <| At.again ((i, (i + j) / 2 ^ 1)) ?_ ?_ ⟨(lk16 rfl).trans (by first | with_reducible rfl | (congr 1; omega) | (simp; done) | (simp [*]; done)), lk0.trans (by first | with_reducible rfl | (congr 1; omega) | (simp; done) | (simp [*]; done)), trivial⟩ ⟨(lk18 rfl), (lk19 rfl), trivial⟩ (fun _ => Stars.sel (by repeat constructor))
 first | exact ⟨by show (i + j) / 2 ^ 1 + 1 ≤ j; omega, h2, hlo, h4⟩ | exact ⟨by show i ≤ (i + j) / 2 ^ 1; omega, by show (i + j) / 2 ^ 1 ≤ n; omega, h3, hhi⟩
 first | (show j - ((i + j) / 2 ^ 1 + 1) < j - i; omega) | (show (i + j) / 2 ^ 1 - i < j - i; omega)
 intro hc1
 obtain rfl : i = j := by omega
 exact J.exit <| At.nextX <| At.loopX <| At.blkX <| At.next <| J.sr <| JL.mv (t3 rfl) <| JL.as (t0 rfl) <| JL.nr <| At.r (i) (⟨h2, h3, h4⟩) (ResV.one rfl (t0 rfl)) rfl

theorem search_list (n : Nat) (hn : n ≤ 1048576) (gf : Nat) (caps : List Value) (f : Nat → Bool) (L : List Assn) (hm : ∀ i j, i ≤ j → j < n → f i = true → f j = true) (hF : ∀ i, i < n → Fn Tryz.prog gf (.int .i64 (i : Int) :: caps) L (X := Unit) (fun _ => True) (fun _ => .bool (f i)) (fun _ => L)) :
    Fn Tryz.prog 60 [.int .i64 (n : Int), .func (.func gf) #[] caps.toArray] L (X := Nat) (fun r => r ≤ n ∧ (∀ i, i < r → f i = false) ∧ (∀ i, r ≤ i → i < n → f i = true)) (fun r => .int .i64 (r : Int)) (fun _ => L) :=
  (search_any n hn gf caps f (Stars L) hm fun i hi => (hF i hi).cv (fun _ s => Stars.wrap (m := []).1 s) (fun _ _ => rfl) fun _ _ _ s => Stars.wrap (m := []).2 s).cv (fun _ s => Stars.wrap (m := []).2 s) (fun _ _ => rfl) fun _ _ _ s => Stars.wrap (m := []).1 s

set_option maxHeartbeats 400000 in
theorem find1_any (bl bk : Nat) (a : Option Addr) (cap : Nat) (l : List It) (key : Bs) (i : Nat) (hi : i < l.length) (_ : l.length ≤ 1048576) :
    Fn Tryz.prog 61 [.int .i64 (i : Int), .pointer (some ⟨bl, 0, none⟩), .pointer (some ⟨bk, 0, none⟩)] [pts bl (.cells [.slice a l.length cap].toArray 85), pts bk (.cells [str key].toArray 9), rowR a 2 (l.map itc)] (X := Unit) (fun _ => True) (fun _ => .bool (findP l key i)) (fun _ => [pts bl (.cells [.slice a l.length cap].toArray 85), pts bk (.cells [str key].toArray 9), rowR a 2 (l.map itc)]) := by
 refine Fn.mk' (n := 12) (l := [(0, .int .i64 (i : Int)), (1, .pointer (some ⟨bl, 0, none⟩)), (2, .pointer (some ⟨bk, 0, none⟩))]) (fn := Tryz.f61) Tryz.func61 (by kernel_rfl) rfl rfl (by simp) rfl ?_
 intro h0 w0
 obtain ⟨p, hp⟩ : ∃ p, l[i]? = some p := ⟨_, List.getElem?_eq_getElem hi⟩
 have hx : (l.map itc)[(i : Int).toNat]? = some [str p.1, str p.2] := by simp [hp, itc]
 refine J.sr <| JL.as Ev.c <| JL.ns <| J.draw [lz, lz, lz, lz, lz, lz, lz, lz] [] mixed rfl <| DRun.end [] [0, 1, 2, 3, 4, 5, 6, 7] rfl rfl ?_ ?_
 exact .nil
 refine DNew.rd rfl (Rd.ldN Tryz.isAgg85 (t2 rfl) (by repeat constructor) (by repeat constructor)) ?_
 refine DNew.rd rfl (Rd.move (t2 rfl)) <| DNew.rd rfl (Rd.sIdx Tryz.runUnderlying85 Tryz.sizeOf64 (t1 rfl) (t0 rfl) (Src.i (by repeat constructor)) (by first | (simp; done) | (simp; omega) | omega | (simp [*]; done) | (simp [*]; omega)) (by omega) (by omega)) ?_
 refine DNew.rd rfl (Rd.sFld0 fld_64_0 (t0 rfl) (Src.i (by repeat constructor)) (List.getElem?_eq_some_iff.1 hx).1) ?_
 refine DNew.rd rfl (Rd.sLd Tryz.isAgg9 (t0 rfl) (Src.i (by repeat constructor)) hx rfl) ?_
 refine DNew.rd rfl (Rd.ldN Tryz.isAgg9 (t8 rfl) (by repeat constructor) (by repeat constructor)) ?_
 exact DNew.rd rfl (Rd.str_geq (t1 rfl) (t0 rfl)) <| DNew.rd rfl (Rd.assign (t0 rfl)) <| DNew.n2 <| J.ret <| At.r (()) (trivial) (ResV.one rfl (t0 rfl)) (by unfold findP; rw [getD_of hp])

set_option maxHeartbeats 400000 in
theorem find_any (a : Option Addr) (cap : Nat) (l : List It) (key : Bs) (hs : sorted l) (hl : l.length ≤ 1048576) :
    Fn Tryz.prog 31 [.slice a l.length cap, str key] [rowR a 2 (l.map itc)] (X := Unit) (fun _ => True) (fun _ => .tuple #[.int .i64 (findF l key : Int), .bool (hasF l key)]) (fun _ => [rowR a 2 (l.map itc)]) := by
 refine Fn.mk' (n := 25) (l := [(0, .slice a l.length cap), (1, str key)]) (fn := Tryz.f31) Tryz.func31 (by kernel_rfl) rfl rfl (by simp) rfl ?_
 intro h0 w0
 refine J.sr <| JL.ef (Ef.box (t0 rfl) rfl ?_)
 intro b1
 refine JL.ef (Ef.box (t2 rfl) rfl ?_)
 intro b2
 refine JL.as Ev.c <| JL.as Ev.c <| JL.n4 <| JL.rd (Rd.ldN Tryz.isAgg85 (t3 rfl) (by repeat constructor) (by repeat constructor)) ?_
 refine JL.rd (Rd.len Tryz.runUnderlying85 (t0 rfl)) <| JL.rd (Rd.mkfunc .nil (.cons (t5 rfl) (.cons (t4 rfl) .nil))) <| JL.ef (Ef.call (.cons (t1 rfl) (.cons (t0 rfl) .nil)) (search_list l.length hl 61 [.pointer (some ⟨b1, 0, none⟩), .pointer (some ⟨b2, 0, none⟩)] (findP l key) [pts b1 (.cells [.slice a l.length cap].toArray 85), pts b2 (.cells [str key].toArray 9), rowR a 2 (l.map itc)] (find_mono hs) (fun i hi => find1_any b1 b2 a cap l key i hi hl)) (by repeat constructor) ?_)
 rintro r ⟨hr, hr1, hr2⟩
 obtain rfl := find_uniq hr hr1 hr2
 simp only [cA, nA]
 refine JL.as (t0 rfl) <| JL.ns ?_
 have hx : ∀ h : findF l key < l.length, (l.map itc)[(findF l key : Int).toNat]? = some [str (l.getD (findF l key) ([], [])).1, str (l.getD (findF l key) ([], [])).2] := fun h => by simp [itc, h]
 refine J.draw [lz, lz, lz, lz, lz, lz, lz, lz, lz, lz, lz, lz, lz, lz, lz, lz] [] mixed rfl <| DRun.end [] [0, 1, 2, 3, 4, 5, 6, 7, 8, 9, 10, 11, 12, 13, 14, 15] rfl rfl ?_ ?_
 exact .nil
 refine DNew.rd rfl (Rd.move (t0 rfl)) <| DNew.rd rfl (Rd.move (t1 rfl)) <| DNew.rd rfl (Rd.ldN Tryz.isAgg85 (t10 rfl) (by repeat constructor) (by repeat constructor)) ?_
 refine DNew.rd rfl (Rd.len Tryz.runUnderlying85 (t0 rfl)) <| DNew.rd rfl (Rd.lss (t2 rfl) (t0 rfl)) <| DNew.rd rfl (Rd.move (t0 rfl)) <| DNew.caseD (t0 rfl) ?_ ?_
 intro hb3p hb3
 refine DNew.rdG rfl rfl (EvB (t0 rfl) hb3) rfl (Rd.ldN Tryz.isAgg85 (t14 rfl) (by repeat constructor) (by repeat constructor)) ?_
 refine DNew.rdG rfl rfl (EvB (t1 rfl) hb3) rfl (Rd.move (t7 rfl)) <| DNew.rdG rfl rfl (EvB (t2 rfl) hb3) rfl (Rd.sIdx Tryz.runUnderlying85 Tryz.sizeOf64 (t1 rfl) (t0 rfl) (Src.i (by repeat constructor)) (by first | (simp; done) | (simp; omega) | omega | (simp [*]; done) | (simp [*]; omega)) (by omega) (by omega)) ?_
 refine DNew.rdG rfl rfl (EvB (t3 rfl) hb3) rfl (Rd.sFld0 fld_64_0 (t0 rfl) (Src.i (by repeat constructor)) (List.getElem?_eq_some_iff.1 (hx (by omega))).1) ?_
 refine DNew.rdG rfl rfl (EvB (t4 rfl) hb3) rfl (Rd.sLd Tryz.isAgg9 (t0 rfl) (Src.i (by repeat constructor)) (hx (by omega)) rfl) ?_
 refine DNew.rdG rfl rfl (EvB (t5 rfl) hb3) rfl (Rd.ldN Tryz.isAgg9 (t18 rfl) (by repeat constructor) (by repeat constructor)) ?_
 exact DNew.rdG rfl rfl (EvB (t6 rfl) hb3) rfl (Rd.str_eql (t1 rfl) (t0 rfl)) <| DNew.rd rfl (Rd.pickT (EvB (t7 rfl) hb3) (t0 rfl)) <| DNew.rd rfl (Rd.assign (t13 rfl)) <| DNew.rd rfl (Rd.assign (t1 rfl)) <| DNew.n2 <| J.ret <| At.r (()) (trivial) (ResV.two rfl (t1 rfl) (t0 rfl)) (by rw [has_lt (by omega)])
 intro hb3p hb3
 exact DNew.skG rfl rfl (EvB (t0 rfl) hb3) rfl <| DNew.skG rfl rfl (EvB (t1 rfl) hb3) rfl <| DNew.skG rfl rfl (EvB (t2 rfl) hb3) rfl <| DNew.skG rfl rfl (EvB (t3 rfl) hb3) rfl <| DNew.skG rfl rfl (EvB (t4 rfl) hb3) rfl <| DNew.skG rfl rfl (EvB (t5 rfl) hb3) rfl <| DNew.skG rfl rfl (EvB (t6 rfl) hb3) rfl <| DNew.rd rfl (Rd.pickF (EvB (t7 rfl) hb3) Ev.c) <| DNew.rd rfl (Rd.assign (t13 rfl)) <| DNew.rd rfl (Rd.assign (t1 rfl)) <| DNew.n2 <| J.ret <| At.r (()) (trivial) (ResV.two rfl (t1 rfl) (t0 rfl)) (by rw [has_ge (by omega)])

set_option maxHeartbeats 400000 in
theorem child1_any (bl bk : Nat) (a : Option Addr) (cap : Nat) (l : List Kd) (key : Bs) (i : Nat) (hi : i < l.length - 1) (hl : l.length ≤ 1048576) :
    Fn Tryz.prog 62 [.int .i64 (i : Int), .pointer (some ⟨bl, 0, none⟩), .pointer (some ⟨bk, 0, none⟩)] [pts bl (.cells [.slice a l.length cap].toArray 89), pts bk (.cells [str key].toArray 9), rowR a 2 (l.map kdc)] (X := Unit) (fun _ => True) (fun _ => .bool (childP l key i)) (fun _ => [pts bl (.cells [.slice a l.length cap].toArray 89), pts bk (.cells [str key].toArray 9), rowR a 2 (l.map kdc)]) := by
 refine Fn.mk' (n := 13) (l := [(0, .int .i64 (i : Int)), (1, .pointer (some ⟨bl, 0, none⟩)), (2, .pointer (some ⟨bk, 0, none⟩))]) (fn := Tryz.f62) Tryz.func62 (by kernel_rfl) rfl rfl (by simp) rfl ?_
 intro h0 w0
 obtain ⟨p, hp⟩ : ∃ p, l[i + 1]? = some p := ⟨_, List.getElem?_eq_getElem (by omega)⟩
 have hx : (l.map kdc)[((i : Int) + 1).toNat]? = some [str p.1, .int .i64 (p.2 : Int)] := by rw [show ((i : Int) + 1).toNat = i + 1 by omega, List.getElem?_map, hp]; rfl
 refine J.sr <| JL.as Ev.c <| JL.ns <| J.draw [lz, lz, lz, lz, lz, lz, lz, lz, lz] [] mixed rfl <| DRun.end [] [0, 1, 2, 3, 4, 5, 6, 7, 8] rfl rfl ?_ ?_
 exact .nil
 refine DNew.rd rfl (Rd.ldN Tryz.isAgg89 (t2 rfl) (by repeat constructor) (by repeat constructor)) ?_
 refine DNew.rd rfl (Rd.move (t2 rfl)) <| DNew.rd rfl (Rd.add (t0 rfl) Ev.c (w64 (by omega) (by omega))) ?_
 refine DNew.rd rfl (Rd.sIdx Tryz.runUnderlying89 Tryz.sizeOf91 (t2 rfl) (t0 rfl) (Src.i (by repeat constructor)) (by first | (simp; done) | (simp; omega) | omega | (simp [*]; done) | (simp [*]; omega)) (by omega) (by omega)) ?_
 refine DNew.rd rfl (Rd.sFld0 fld_91_0 (t0 rfl) (Src.i (by repeat constructor)) (List.getElem?_eq_some_iff.1 hx).1) ?_
 refine DNew.rd rfl (Rd.sLd Tryz.isAgg9 (t0 rfl) (Src.i (by repeat constructor)) hx rfl) ?_
 refine DNew.rd rfl (Rd.ldN Tryz.isAgg9 (t9 rfl) (by repeat constructor) (by repeat constructor)) ?_
 exact DNew.rd rfl (Rd.str_gtr (t1 rfl) (t0 rfl)) <| DNew.rd rfl (Rd.assign (t0 rfl)) <| DNew.n2 <| J.ret <| At.r (()) (trivial) (ResV.one rfl (t0 rfl)) (by unfold childP; rw [getD_of hp])

set_option maxHeartbeats 400000 in
theorem child_any (a : Option Addr) (cap : Nat) (l : List Kd) (key : Bs) (h0 : 0 < l.length) (hs : l.tail.Pairwise fun a b => slt a.1 b.1 = true) (hl : l.length ≤ 1048576) :
    Fn Tryz.prog 32 [.slice a l.length cap, str key] [rowR a 2 (l.map kdc)] (X := Unit) (fun _ => True) (fun _ => .int .i64 (childF l key : Int)) (fun _ => [rowR a 2 (l.map kdc)]) := by
 refine Fn.mk' (n := 10) (l := [(0, .slice a l.length cap), (1, str key)]) (fn := Tryz.f32) Tryz.func32 (by kernel_rfl) rfl rfl (by simp) rfl ?_
 intro h0 w0
 refine J.sr <| JL.ef (Ef.box (t0 rfl) rfl ?_)
 intro b1
 refine JL.ef (Ef.box (t2 rfl) rfl ?_)
 intro b2
 refine JL.as Ev.c <| JL.n4 <| JL.rd (Rd.ldN Tryz.isAgg89 (t2 rfl) (by repeat constructor) (by repeat constructor)) ?_
 refine JL.rd (Rd.len Tryz.runUnderlying89 (t0 rfl)) <| JL.rd (Rd.sub (t0 rfl) Ev.c (w64 (by omega) (by omega))) ?_
 rw [show ((l.length : Int) - 1) = ((l.length - 1 : Nat) : Int) by omega]
 refine JL.rd (Rd.mkfunc .nil (.cons (t5 rfl) (.cons (t4 rfl) .nil))) <| JL.ef (Ef.call (.cons (t1 rfl) (.cons (t0 rfl) .nil)) (search_list (l.length - 1) (by omega) 62 [.pointer (some ⟨b1, 0, none⟩), .pointer (some ⟨b2, 0, none⟩)] (childP l key) [pts b1 (.cells [.slice a l.length cap].toArray 89), pts b2 (.cells [str key].toArray 9), rowR a 2 (l.map kdc)] (child_mono hs) (fun i hi => child1_any b1 b2 a cap l key i hi hl)) (by repeat constructor) ?_)
 rintro r ⟨hr, hr1, hr2⟩
 obtain rfl := child_uniq hr hr1 hr2
 simp only [cA, nA]
 exact JL.as (t0 rfl) <| JL.nr <| At.r (()) (trivial) (ResV.one rfl (t0 rfl)) rfl
theorem hbest_pos {cost : Nat → Nat} {least k : Nat} (h : cost (least + k) < cost (hbest cost least k)) : hbest cost least (k + 1) = least + k := by rw [hbest, if_pos h]
theorem hbest_neg {cost : Nat → Nat} {least k : Nat} (h : ¬ cost (least + k) < cost (hbest cost least k)) : hbest cost least (k + 1) = hbest cost least k := by rw [hbest, if_neg h]
def costC (c : Nat → Nat → Nat) (n : Nat) (i : Nat) : Nat := max (c 0 i) (c i n)

set_option maxHeartbeats 400000 in
theorem halves_any (n least : Nat) (hn : n ≤ 1048576) (h2 : 2 * least ≤ n) (gf : Nat) (caps : List Value) (c : Nat → Nat → Nat) (A : Assn) (hF : ∀ i j, i ≤ j → j ≤ n → Fn Tryz.prog gf (.int .i64 (i : Int) :: .int .i64 (j : Int) :: caps) [A] (X := Unit) (fun _ => True) (fun _ => .int .i64 (c i j : Int)) (fun _ => [A])) :
    Fn Tryz.prog 80 [.int .i64 (n : Int), .int .i64 (least : Int), .func (.func gf) #[] caps.toArray] [A] (X := Unit) (fun _ => True) (fun _ => .int .i64 (halves n least (costC c n) : Int)) (fun _ => [A]) := by
 refine Fn.mk' (n := 37) (l := [(0, .int .i64 (n : Int)), (1, .int .i64 (least : Int)), (2, .func (.func gf) #[] caps.toArray)]) (fn := Tryz.f80) Tryz.func80 (by kernel_rfl) rfl rfl (by simp) rfl ?_
 intro h0 w0
 refine J.sr <| JL.as Ev.c <| JL.n4 <| JL.mv (t2 rfl) <| JL.as (t0 rfl) <| JL.n5 <| JL.mv (t4 rfl) <| JL.as (t0 rfl) <| JL.nb <| J.loop (X := Nat) (fun (k : Nat) => [(8, .int .i64 ((least + k : Nat) : Int)), (7, .int .i64 ((hbest (costC c n) least k) : Int))]) (K := [(6, _), (0, _), (1, _), (2, _)]) (fun k => [A]) (fun k => k ≤ n + 1 - 2 * least) (fun k => n + 1 - k) (0) ?_ ⟨lk0.trans (by first | (first | (rw [hbs]; done) | (apply congrArg (Value.int IntKind.i64); omega) | (simp [hbest]; done); done) | with_reducible rfl | (congr 1; omega) | (simp; done) | (simp [*]; done)), (lk2 rfl).trans (by first | (first | (rw [hbs]; done) | (apply congrArg (Value.int IntKind.i64); omega) | (simp [hbest]; done); done) | with_reducible rfl | (congr 1; omega) | (simp; done) | (simp [*]; done)), trivial⟩ ⟨(lk4 rfl), (lk5 rfl), (lk6 rfl), (lk7 rfl), trivial⟩ (fun _ => Stars.sel (by repeat constructor)) ?_
 exact Nat.zero_le _
 intro k ρ hk
 simp only [cA, nA]
 have hbl := hbest_le (costC c n) least k
 refine J.seq <| J.sr <| JL.mv (t0 rfl) <| JL.mv (t4 rfl) <| JL.mv (t6 rfl) <| JL.rd (Rd.sub (t1 rfl) (t0 rfl) (w64 (by omega) (by omega))) ?_
 refine JL.rd (Rd.leq (t3 rfl) (t0 rfl)) <| JL.n2 <| J.condD (t0 rfl) ?_ ?_
 intro hc1
 refine J.skip <| At.next <| J.seq <| J.block <| J.sr <| JL.mv (t10 rfl) <| JL.mv (t6 rfl) <| JL.ef (Ef.callv (t1 rfl) (.cons Ev.c (.cons (t0 rfl) .nil)) (hF 0 (least + k) (by omega) (by omega)) (by repeat constructor) ?_)
 rintro - -
 simp only [cA, nA]
 refine JL.mv (t13 rfl) <| JL.mv (t9 rfl) <| JL.mv (t13 rfl) <| JL.ef (Ef.callv (t2 rfl) (.cons (t1 rfl) (.cons (t0 rfl) .nil)) (hF (least + k) n (by omega) (Nat.le_refl _)) (by repeat constructor) ?_)
 rintro - -
 simp only [cA, nA]
 refine JL.rd (Rd.max2 (t4 rfl) (t0 rfl)) <| JL.mv (t18 rfl) <| JL.mv (t15 rfl) <| JL.ef (Ef.callv (t1 rfl) (.cons Ev.c (.cons (t0 rfl) .nil)) (hF 0 (hbest (costC c n) least k) (by omega) (by omega)) (by repeat constructor) ?_)
 rintro - -
 simp only [cA, nA]
 refine JL.mv (t21 rfl) <| JL.mv (t18 rfl) <| JL.mv (t21 rfl) <| JL.ef (Ef.callv (t2 rfl) (.cons (t1 rfl) (.cons (t0 rfl) .nil)) (hF (hbest (costC c n) least k) n (by omega) (Nat.le_refl _)) (by repeat constructor) ?_)
 rintro - -
 simp only [cA, nA]
 refine JL.rd (Rd.max2 (t4 rfl) (t0 rfl)) <| JL.rd (Rd.lss (t8 rfl) (t0 rfl)) <| JL.n2 <| J.condD (t0 rfl) ?_ ?_
 intro hc2
 have hbs := hbest_pos (cost := costC c n) (least := least) (k := k) (by show max (c 0 (least + k)) (c (least + k) n) < max (c 0 (hbest (costC c n) least k)) (c (hbest (costC c n) least k) n); omega)
 refine J.region <| JL.mv (t22 rfl) <| JL.as (t0 rfl) <| JL.nil <| At.blkN <| At.next <| J.live (K := [(7, _), (8, _), (6, _), (0, _), (1, _), (2, _)]) ⟨lk0, (lk24 rfl), (lk26 rfl), (lk27 rfl), (lk28 rfl), (lk29 rfl), trivial⟩ ?_
 intro ρ3
 refine J.region <| JL.mv (t1 rfl) <| JL.rd (Rd.add (t0 rfl) Ev.c (w64 (by omega) (by omega))) ?_
 refine JL.as (t0 rfl) <| JL.nil <| At.again (k + 1) ?_ ?_ ⟨lk0.trans (by first | (first | (rw [hbs]; done) | (apply congrArg (Value.int IntKind.i64); omega) | (simp [hbest]; done); done) | with_reducible rfl | (congr 1; omega) | (simp; done) | (simp [*]; done)), (lk3 rfl).trans (by first | (first | (rw [hbs]; done) | (apply congrArg (Value.int IntKind.i64); omega) | (simp [hbest]; done); done) | with_reducible rfl | (congr 1; omega) | (simp; done) | (simp [*]; done)), trivial⟩ ⟨(lk5 rfl), (lk6 rfl), (lk7 rfl), (lk8 rfl), trivial⟩ (fun _ => Stars.sel (by repeat constructor))
 omega
 omega
 intro hc2
 have hbs := hbest_neg (cost := costC c n) (least := least) (k := k) (by show ¬ max (c 0 (least + k)) (c (least + k) n) < max (c 0 (hbest (costC c n) least k)) (c (hbest (costC c n) least k) n); omega)
 refine J.skip <| At.blkN <| At.next <| J.region <| JL.mv (t22 rfl) <| JL.rd (Rd.add (t0 rfl) Ev.c (w64 (by omega) (by omega))) ?_
 refine JL.as (t0 rfl) <| JL.nil <| At.again (k + 1) ?_ ?_ ⟨lk0.trans (by first | (first | (rw [hbs]; done) | (apply congrArg (Value.int IntKind.i64); omega) | (simp [hbest]; done); done) | with_reducible rfl | (congr 1; omega) | (simp; done) | (simp [*]; done)), (lk26 rfl).trans (by first | (first | (rw [hbs]; done) | (apply congrArg (Value.int IntKind.i64); omega) | (simp [hbest]; done); done) | with_reducible rfl | (congr 1; omega) | (simp; done) | (simp [*]; done)), trivial⟩ ⟨(lk27 rfl), (lk28 rfl), (lk29 rfl), (lk30 rfl), trivial⟩ (fun _ => Stars.sel (by repeat constructor))
 omega
 omega
 intro hc1
 obtain rfl : k = n + 1 - 2 * least := by omega
 exact J.exit <| At.nextX <| At.loopX <| At.blkX <| At.next <| J.sr <| JL.mv (t6 rfl) <| JL.as (t0 rfl) <| JL.nr <| At.r (()) (trivial) (ResV.one rfl (t0 rfl)) (by unfold halves; rfl)

theorem halves_list (n least : Nat) (hn : n ≤ 1048576) (h2 : 2 * least ≤ n) (gf : Nat) (caps : List Value) (c : Nat → Nat → Nat) (L : List Assn) (hF : ∀ i j, i ≤ j → j ≤ n → Fn Tryz.prog gf (.int .i64 (i : Int) :: .int .i64 (j : Int) :: caps) L (X := Unit) (fun _ => True) (fun _ => .int .i64 (c i j : Int)) (fun _ => L)) :
    Fn Tryz.prog 80 [.int .i64 (n : Int), .int .i64 (least : Int), .func (.func gf) #[] caps.toArray] L (X := Unit) (fun _ => True) (fun _ => .int .i64 (halves n least (costC c n) : Int)) (fun _ => L) :=
  (halves_any n least hn h2 gf caps c (Stars L) fun i j h1 h2 => (hF i j h1 h2).cv (fun _ s => Stars.wrap (m := []).1 s) (fun _ _ => rfl) fun _ _ _ s => Stars.wrap (m := []).2 s).cv (fun _ s => Stars.wrap (m := []).2 s) (fun _ _ => rfl) fun _ _ _ s => Stars.wrap (m := []).1 s
/-- A node as it lies in memory. -/
structure NdV where
  a : Option Addr
  cap : Nat
  n : Nd
def NdV.val (x : NdV) : Value := match x.n with
  | .leaf l => .iface 85 (.slice x.a l.length x.cap)
  | .inner l => .iface 89 (.slice x.a l.length x.cap)
def NdV.cells (x : NdV) : List (List Value) := match x.n with
  | .leaf l => l.map itc
  | .inner l => l.map kdc
def NdV.mem (x : NdV) : Assn := rowR x.a 2 x.cells
def nvals (xs : List NdV) : List (List Value) := xs.map fun x => [x.val]
@[simp] theorem nvals_length (xs : List NdV) : (nvals xs).length = xs.length := List.length_map _
theorem nvals_one {xs : List NdV} : ∀ u ∈ (nvals xs).flatten, u.oneCell' = true := by
  intro u hu
  obtain ⟨x, hx, hu⟩ := List.mem_flatten.1 hu
  obtain ⟨p, _, rfl⟩ := List.mem_map.1 hx
  simp only [List.mem_cons, List.not_mem_nil, or_false] at hu
  subst hu
  unfold NdV.val
  split <;> rfl
/-- The memory of some nodes, to be read only; and what is known of their slices. -/
@[irreducible] def nodesM (xs : List NdV) : Assn := fun h => ∀ x ∈ xs, x.mem h ∧ x.cells.length ≤ x.cap
theorem jn_left {h1 h2 : Frag} : ∀ b f o, h1 b = some (f, o) → jn h1 h2 b = some (f, o) := fun b f o h => by unfold jn; rw [h]; rfl
theorem jn_right {h1 h2 : Frag} (c : Cmp h1 h2) : ∀ b o, h2 b = some (false, o) → jn h1 h2 b = some (false, o) := fun b o h => by
  rw [jn_comm c]; exact jn_left b false o h
theorem rowR_mono2 {a : Option Addr} {s : Nat} {xs : List (List Value)} {h1 h2 : Frag} (hh : ∀ b o, h1 b = some (false, o) → h2 b = some (false, o)) (p : rowR a s xs h1) : rowR a s xs h2 := by
  unfold rowR at p ⊢
  obtain ⟨hf, rfl | ⟨b, off, cs, e, fr, rfl, hb, ht⟩⟩ := p
  · exact ⟨hf, .inl rfl⟩
  · exact ⟨hf, .inr ⟨b, off, cs, e, fr, rfl, hh _ _ hb, ht⟩⟩
theorem nodesM_nil {l : List Assn} {h : Frag} (s : Stars l h) : Stars (nodesM [] :: l) h := ⟨fun _ => none, h, (by unfold nodesM; exact fun x hx => by cases hx), s, fun _ => .inl rfl, by funext b; rfl⟩
theorem nodesM_append {xs ys : List NdV} {l : List Assn} {h : Frag} (s : Stars (nodesM xs :: nodesM ys :: l) h) : Stars (nodesM (xs ++ ys) :: l) h := by
  refine Stars.shut (L := [nodesM xs, nodesM ys]) (fun g t => ?_) s
  obtain ⟨h1, h2, a, ⟨h3, h4, b, e, c1, rfl⟩, c, rfl⟩ := t
  unfold nodesM at a b ⊢
  intro x hx
  rcases List.mem_append.1 hx with hx | hx
  · exact ⟨rowR_mono2 (fun b o h => jn_left b false o h) (a x hx).1, (a x hx).2⟩
  · exact ⟨rowR_mono2 (fun b o h => jn_right c b o (jn_left b false o h)) (b x hx).1, (b x hx).2⟩
theorem nodesM_one {x : NdV} (hc : x.cells.length ≤ x.cap) {l : List Assn} {h : Frag} (s : Stars (rowR x.a 2 x.cells :: l) h) : Stars (nodesM [x] :: l) h := by
  obtain ⟨h1, h2, a, b, c, rfl⟩ := s
  exact ⟨h1, h2, by unfold nodesM; intro y hy; simp at hy; subst hy; exact ⟨a, hc⟩, b, c, rfl⟩
theorem nodesM_mem {xs : List NdV} {x : NdV} (hx : x ∈ xs) {l : List Assn} {h : Frag} (s : Stars (nodesM xs :: l) h) : x.cells.length ≤ x.cap ∧ Stars (rowR x.a 2 x.cells :: nodesM xs :: l) h := by
  refine ⟨?_, rowR_pick (fun h p => by unfold nodesM at p; exact (p x hx).1) s⟩
  obtain ⟨h1, h2, a, _⟩ := s
  unfold nodesM at a
  exact (a x hx).2
theorem J.nodeGet {P : Program} {C : Cx} {Q : Exit → Act → World → Prop} {ρ : Env} {hs hs1 : List Assn} {c : Code} {xs : List NdV} {x : NdV} (hx : x ∈ xs) (t : Take (nodesM xs) hs hs1) (k : x.cells.length ≤ x.cap → J P C c Q ρ (rowR x.a 2 x.cells :: nodesM xs :: hs1)) : J P C c Q ρ hs :=
  J.know (fun _ s => (nodesM_mem hx (Stars.perm t.perm s)).1) fun h => J.weak (fun _ s => (nodesM_mem hx (Stars.perm t.perm s)).2) (k h)

theorem lsize_at (a : Option Addr) (n cap : Nat) (l : List It) (hn : l.length = n) (hs : sizeL l ≤ 1048576) (hl : n ≤ 1048576) : Fn Tryz.prog 82 [.iface 85 (.slice a n cap)] [rowR a 2 (l.map itc)] (X := Unit) (fun _ => True) (fun _ => .int .i64 (sizeL l : Int)) (fun _ => [rowR a 2 (l.map itc)]) := by
  subst hn
  exact lsize_any a cap l hs hl

theorem sizeL_drop (l : List It) (x : Nat) : sizeL (l.drop x) ≤ sizeL l := by
  have h : l = l.take x ++ l.drop x := (List.take_append_drop x l).symm
  have := sizeL_append (l.take x) (l.drop x)
  rw [← h] at this
  omega
theorem sizeI_drop (l : List Kd) (x : Nat) : sizeI (l.drop x) ≤ sizeI l := by
  cases x with
  | zero => exact Nat.le_refl _
  | succ x =>
    cases l with
    | nil => exact Nat.le_refl _
    | cons p l =>
      rw [List.drop_succ_cons]
      have h : l = l.take x ++ l.drop x := (List.take_append_drop x l).symm
      have h2 : (l.flatMap kidB).length = ((l.take x).flatMap kidB).length + ((l.drop x).flatMap kidB).length := by
        conv => lhs; rw [h, List.flatMap_append, List.length_append]
      have h3 : sizeI (l.drop x) ≤ 4 + ((l.drop x).flatMap kidB).length := by
        cases l.drop x with
        | nil => exact Nat.zero_le _
        | cons q m => rw [sizeI_cons, sizeK_cons]; omega
      rw [sizeI_cons]
      by_cases hd : l.drop x = []
      · rw [hd]; exact Nat.zero_le _
      · omega

set_option maxHeartbeats 400000 in
theorem lpack1_any (bl : Nat) (a : Option Addr) (cap : Nat) (l : List It) (i j : Nat) (hi : i ≤ j) (hj : j ≤ l.length) (hc : l.length ≤ cap) (hs : sizeL l ≤ 1048576) (hl : l.length ≤ 1048576) :
    Fn Tryz.prog 81 [.int .i64 (i : Int), .int .i64 (j : Int), .pointer (some ⟨bl, 0, none⟩)] [pts bl (.cells [.slice a l.length cap].toArray 85), rowR a 2 (l.map itc)] (X := Unit) (fun _ => True) (fun _ => .int .i64 (sizeL ((l.drop i).take (j - i)) : Int)) (fun _ => [pts bl (.cells [.slice a l.length cap].toArray 85), rowR a 2 (l.map itc)]) := by
 refine Fn.mk' (n := 12) (l := [(0, .int .i64 (i : Int)), (1, .int .i64 (j : Int)), (2, .pointer (some ⟨bl, 0, none⟩))]) (fn := Tryz.f81) Tryz.func81 (by kernel_rfl) rfl rfl (by simp) rfl ?_
 intro h0 w0
 have hsd := Nat.le_trans (sizeL_take (l.drop i) (j - i)) (sizeL_drop l i)
 have hsub : ((l.map itc).drop i).take (j - i) = ((l.drop i).take (j - i)).map itc := by simp [List.map_drop, List.map_take]
 refine J.sr <| JL.as Ev.c <| JL.n4 <| JL.rd (Rd.ldN Tryz.isAgg85 (t3 rfl) (by repeat constructor) (by repeat constructor)) ?_
 refine JL.mv (t2 rfl) <| JL.mv (t4 rfl) <| JL.rd (Rd.slMid Tryz.runUnderlying85 Tryz.sizeOf64 (t2 rfl) (t1 rfl) (t0 rfl) (by omega) (by omega)) ?_
 refine JL.cut i (j - i) cap (show (l.map itc).length ≤ cap by simp; omega) (by repeat constructor) ?_
 rw [hsub]
 refine JL.rd (Rd.iface (t0 rfl) Tryz.runUnderlying85 (fun _ h => by cases h)) <| JL.ef (Ef.call (.cons (t0 rfl) .nil) (lsize_at (subA a 2 i cap) (j - i) (cap - i) ((l.drop i).take (j - i)) (by simp; omega) (by omega) (by omega)) (by repeat constructor) ?_)
 rintro - -
 simp only [cA, nA]
 exact JL.as (t0 rfl) <| JL.nr <| At.r (()) (trivial) (ResV.one rfl (t0 rfl)) rfl

set_option maxHeartbeats 400000 in
theorem lpack_step (f : Nat) (ih : ∀ (a : Option Addr) (n cap : Nat) (l : List It), l.length = n → l.length ≤ f → (∀ p ∈ l, itOk p) → n ≤ cap → sizeL l ≤ 1048576 → n ≤ 1048576 → Fn Tryz.prog 63 [.slice a n cap] [rowR a 2 (l.map itc)] (X := Option Addr × Nat × List NdV) (fun x => x.2.2.map (·.n) = (packF sizeL 1 f l).map .leaf) (fun x => .slice x.1 x.2.2.length x.2.1) (fun x => [row x.1 x.2.1 76 1 (nvals x.2.2), nodesM x.2.2, rowR a 2 (l.map itc)])) (a : Option Addr) (cap : Nat) (l : List It) (hf : l.length ≤ f + 1) (hok : ∀ p ∈ l, itOk p) (hc : l.length ≤ cap) (hs : sizeL l ≤ 1048576) (hl : l.length ≤ 1048576) :
    Fn Tryz.prog 63 [.slice a l.length cap] [rowR a 2 (l.map itc)] (X := Option Addr × Nat × List NdV) (fun x => x.2.2.map (·.n) = (packF sizeL 1 (f + 1) l).map .leaf) (fun x => .slice x.1 x.2.2.length x.2.1) (fun x => [row x.1 x.2.1 76 1 (nvals x.2.2), nodesM x.2.2, rowR a 2 (l.map itc)]) := by
 refine Fn.mk' (n := 29) (l := [(0, .slice a l.length cap)]) (fn := Tryz.f63) Tryz.func63 (by kernel_rfl) rfl rfl (by simp) rfl ?_
 intro h0 w0
 refine J.sr <| JL.ef (Ef.box (t0 rfl) rfl ?_)
 intro b1
 refine JL.as Ev.c <| JL.ns <| J.block <| J.sr <| JL.rd (Rd.ldN Tryz.isAgg85 (t1 rfl) (by repeat constructor) (by repeat constructor)) ?_
 refine JL.rd (Rd.len Tryz.runUnderlying85 (t0 rfl)) <| JL.rd (Rd.eql (t0 rfl) Ev.c) <| JL.as (t0 rfl) <| JL.n2 <| J.condD (t0 rfl) ?_ ?_
 intro hc2
 have hl0 : l = [] := List.eq_nil_of_length_eq_zero (by omega)
 exact J.sr <| JL.as Ev.c <| JL.nr <| At.blkR <| At.nextR <| At.ret ((none, 0, [])) (by rw [hl0, packF_nil]; rfl) (ResV.one rfl (t0 rfl)) rfl (fun _ s => by have s1 := row_nil 76 1 (nodesM_nil s); exact Stars.sel (by repeat constructor) s1)
 intro hc2
 have hl0 : l ≠ [] := fun e => hc2 (by rw [e]; rfl)
 refine J.sr <| JL.rd (Rd.ldN Tryz.isAgg85 (t5 rfl) (by repeat constructor) (by repeat constructor)) ?_
 refine JL.rd (Rd.iface (t0 rfl) Tryz.runUnderlying85 (fun _ h => by cases h)) <| JL.ef (Ef.call (.cons (t0 rfl) .nil) (lfits_any a cap l hs hl) (by repeat constructor) ?_)
 rintro - -
 simp only [cA, nA]
 refine JL.as (t0 rfl) <| JL.n2 <| J.condD (t0 rfl) ?_ ?_
 intro hc3
 have hfit : sizeL l ≤ 505 := by omega
 refine J.sr <| JL.rd (Rd.ldN Tryz.isAgg85 (t9 rfl) (by repeat constructor) (by repeat constructor)) ?_
 refine JL.rd (Rd.iface (t0 rfl) Tryz.runUnderlying85 (fun _ h => by cases h)) <| JL.ef (Ef.slit1 elt_132 (t0 rfl) rfl rfl (by decide) ?_)
 intro b4
 exact JL.as (t0 rfl) <| JL.nr <| At.blkR <| At.nextR <| At.ret ((some ⟨b4, 0, none⟩, 1, [⟨a, cap, .leaf l⟩])) (by rw [packF_fits hl0 hfit]; rfl) (ResV.one rfl (t0 rfl)) rfl (fun _ s => by have s1 := rowR_dup (Stars.sel (pre := [rowR a 2 (l.map itc), row (some ⟨b4, 0, none⟩) 1 76 1 [[.iface 85 (.slice a l.length cap)]]]) (by repeat constructor) s); have s2 := nodesM_one (x := ⟨a, cap, .leaf l⟩) (by show (l.map itc).length ≤ cap; simp; exact hc) s1; have s3 := Stars.sel (pre := [row (some ⟨b4, 0, none⟩) 1 76 1 (nvals [⟨a, cap, .leaf l⟩]), nodesM [⟨a, cap, .leaf l⟩], rowR a 2 (l.map itc)]) (by repeat constructor) s2; exact s3)
 intro hc3
 have hfit : ¬ sizeL l ≤ 505 := by omega
 have hdv := divL.2 l hok (by omega)
 have hhv := halves_le (cost := cost sizeL l) hdv
 have hcost : costC (fun i j => sizeL ((l.drop i).take (j - i))) l.length = cost sizeL l := by
   funext i
   simp only [costC, cost, List.drop_zero, Nat.sub_zero]
   rw [List.take_of_length_le (l := l.drop i) (by simp)]
 refine J.skip <| At.blkN <| At.next <| J.sr <| JL.rd (Rd.ldN Tryz.isAgg85 (t9 rfl) (by repeat constructor) (by repeat constructor)) ?_
 refine JL.rd (Rd.len Tryz.runUnderlying85 (t0 rfl)) <| JL.rd (Rd.mkfunc .nil (.cons (t11 rfl) .nil)) <| JL.ef (Ef.call (.cons (t1 rfl) (.cons Ev.c (.cons (t0 rfl) .nil))) (halves_list l.length 1 hl hdv 81 [.pointer (some ⟨b1, 0, none⟩)] (fun i j => sizeL ((l.drop i).take (j - i))) [pts b1 (.cells [.slice a l.length cap].toArray 85), rowR a 2 (l.map itc)] (fun i j h1 h2 => lpack1_any b1 a cap l i j h1 h2 hc hs hl)) (by repeat constructor) ?_)
 rintro - -
 rw [hcost]
 simp only [cA, nA]
 refine JL.as (t0 rfl) <| JL.ns <| J.cut 0 (halves l.length 1 (cost sizeL l)) cap (show (l.map itc).length ≤ cap by simp; omega) (by repeat constructor) ?_
 refine J.cut (halves l.length 1 (cost sizeL l)) l.length cap (show (l.map itc).length ≤ cap by simp; omega) (.there .here) ?_
 rw [subA_zero, show ((l.map itc).drop 0).take (halves l.length 1 (cost sizeL l)) = (l.take (halves l.length 1 (cost sizeL l))).map itc by simp [List.map_take], show ((l.map itc).drop (halves l.length 1 (cost sizeL l))).take l.length = (l.drop (halves l.length 1 (cost sizeL l))).map itc by rw [List.take_of_length_le (by simp), List.map_drop]]
 refine J.draw [lz, lz, lz, lz, ⟨true, 0, 0⟩, ⟨false, 0, 1⟩, ⟨false, 0, 1⟩, ⟨false, 0, 1⟩, ⟨true, 1, 1⟩, ⟨true, 2, 2⟩, ⟨false, 3, 3⟩] [4, 8, 9] mixed rfl <| DRun.at [] [0, 1, 2, 3, 5, 6, 7] rfl rfl ?_ ?_
 exact .nil
 refine DNew.rd rfl (Rd.ldN Tryz.isAgg85 (t14 rfl) (by repeat constructor) (by repeat constructor)) ?_
 refine DNew.rd rfl (Rd.move (t1 rfl)) <| DNew.rd rfl (Rd.move (t2 rfl)) <| DNew.rd rfl (Rd.slMax Tryz.runUnderlying85 Tryz.sizeOf64 (t2 rfl) (t1 rfl) (t0 rfl) (by omega) (by omega)) ?_
 refine DNew.rd rfl (Rd.ldN Tryz.isAgg85 (t18 rfl) (by repeat constructor) (by repeat constructor)) ?_
 refine DNew.rd rfl (Rd.move (t5 rfl)) <| DNew.rd rfl (Rd.slFrom Tryz.runUnderlying85 Tryz.sizeOf64 (t1 rfl) (t0 rfl) (by omega)) ?_
 refine DNew.nil <| DRun.ef rfl (Ef.call (.cons (t3 rfl) .nil) (ih a (halves l.length 1 (cost sizeL l)) (halves l.length 1 (cost sizeL l)) (l.take (halves l.length 1 (cost sizeL l))) (by simp; omega) (by simp; omega) (fun p hp => hok p (List.mem_of_mem_take hp)) (Nat.le_refl _) (Nat.le_trans (sizeL_take l _) hs) (by omega)) (by repeat constructor) ?_)
 rintro ⟨ra, rc, xs⟩ hxs
 simp only [cA, nA]
 refine DRun.at [5, 6, 7] [] rfl rfl ?_ ?_
 refine DCar.rd rfl (lk3 rfl) (Rd.ldN Tryz.isAgg85 (t22 rfl) (by repeat constructor) (by repeat constructor)) ?_
 refine DCar.rd rfl (lk2 rfl) (Rd.move (t8 rfl)) <| DCar.rd rfl (lk1 rfl) (Rd.slFrom Tryz.runUnderlying85 Tryz.sizeOf64 (t3 rfl) (t2 rfl) (by omega)) ?_
 exact .nil
 refine DNew.nil <| DRun.ef rfl (Ef.call (.cons (t1 rfl) .nil) (ih (subA a 2 (halves l.length 1 (cost sizeL l)) cap) (l.length - (halves l.length 1 (cost sizeL l))) (cap - (halves l.length 1 (cost sizeL l))) (l.drop (halves l.length 1 (cost sizeL l))) (by simp) (by simp; omega) (fun p hp => hok p (List.mem_of_mem_drop hp)) (by omega) (Nat.le_trans (sizeL_drop l _) hs) (by omega)) (by repeat constructor) ?_)
 rintro ⟨rb, rd, ys⟩ hys
 have hxl := congrArg List.length hxs
 have hyl := congrArg List.length hys
 simp only [List.length_map] at hxl hyl
 have hx2 := packF_len divL f (l.take (halves l.length 1 (cost sizeL l))) (fun p hp => hok p (List.mem_of_mem_take hp))
 have hy2 := packF_len divL f (l.drop (halves l.length 1 (cost sizeL l))) (fun p hp => hok p (List.mem_of_mem_drop hp))
 rw [List.length_take] at hx2
 rw [List.length_drop] at hy2
 simp only [cA, nA]
 refine DRun.at [] [] rfl rfl ?_ ?_
 exact .nil
 refine DNew.nil <| DRun.ef rfl (Ef.appS elt_132 (t1 rfl) (t0 rfl) (by repeat constructor) (Src.i (by repeat constructor)) (by first | (simp; done) | (simp; omega) | omega | (simp [*]; done) | (simp [*]; omega)) (by first | (simp; done) | (simp; omega) | omega | (simp [*]; done) | (simp [*]; omega)) nvals_one (by first | omega | (simp; omega)) (by first | (simp only [maxLen]; omega) | (simp [maxLen]; omega)) ?_)
 intro a5 c6
 refine DRun.end [] [10] rfl rfl ?_ ?_
 exact .nil
 exact DNew.rd rfl (Rd.assign (t0 rfl)) <| DNew.n2 <| J.ret <| At.ret ((a5, c6, xs ++ ys)) (by show (xs ++ ys).map _ = _; rw [packF_split hl0 hfit, List.map_append, List.map_append]; dsimp only at hxs hys; rw [hxs, hys]) (ResV.one rfl (t0 rfl)) (by simp) (fun _ s => by have s1 := Stars.sel (pre := [nodesM xs, nodesM ys, row a5 c6 76 1 (nvals xs ++ nvals ys), rowR a 2 (l.map itc)]) (by repeat constructor) s; have s2 := nodesM_append s1; rw [show nvals xs ++ nvals ys = nvals (xs ++ ys) by simp [nvals]] at s2; exact Stars.sel (by repeat constructor) s2)

set_option maxHeartbeats 400000 in
theorem lpack_nil (a : Option Addr) (cap : Nat) :
    Fn Tryz.prog 63 [.slice a 0 cap] [] (X := Unit) (fun _ => True) (fun _ => .slice none 0 0) (fun _ => []) := by
 refine Fn.mk' (n := 29) (l := [(0, .slice a 0 cap)]) (fn := Tryz.f63) Tryz.func63 (by kernel_rfl) rfl rfl (by simp) rfl ?_
 intro h0 w0
 refine J.sr <| JL.ef (Ef.box (t0 rfl) rfl ?_)
 intro b1
 refine JL.as Ev.c <| JL.ns <| J.block <| J.sr <| JL.rd (Rd.ldN Tryz.isAgg85 (t1 rfl) (by repeat constructor) (by repeat constructor)) ?_
 exact JL.rd (Rd.len Tryz.runUnderlying85 (t0 rfl)) <| JL.rd (Rd.eql (t0 rfl) Ev.c) <| JL.as (t0 rfl) <| JL.n2 <| J.condT (EvB (t0 rfl) rfl) <| J.sr <| JL.as Ev.c <| JL.nr <| At.blkR <| At.nextR <| At.r (()) (trivial) (ResV.one rfl (t0 rfl)) rfl

theorem lpack_all : ∀ (f : Nat) (a : Option Addr) (n cap : Nat) (l : List It), l.length = n → l.length ≤ f → (∀ p ∈ l, itOk p) → n ≤ cap → sizeL l ≤ 1048576 → n ≤ 1048576 → Fn Tryz.prog 63 [.slice a n cap] [rowR a 2 (l.map itc)] (X := Option Addr × Nat × List NdV) (fun x => x.2.2.map (·.n) = (packF sizeL 1 f l).map .leaf) (fun x => .slice x.1 x.2.2.length x.2.1) (fun x => [row x.1 x.2.1 76 1 (nvals x.2.2), nodesM x.2.2, rowR a 2 (l.map itc)]) := by
  intro f
  induction f with
  | zero =>
    intro a n cap l hn hf _ _ _ _
    have : l = [] := List.eq_nil_of_length_eq_zero (by omega)
    subst this
    simp only [List.length_nil] at hn
    subst hn
    refine (lpack_nil a cap).cvx (fun _ => ((none, 0, []) : Option Addr × Nat × List NdV)) (fun _ _ => by rw [packF_nil]; rfl) (fun _ _ => trivial) (fun _ _ => rfl) fun _ h _ s => ?_
    have s1 := row_nil 76 1 (nodesM_nil (rowR_nil a 2 s))
    exact s1
  | succ f ih =>
    intro a n cap l hn hf hok hc hs hl
    subst hn
    exact lpack_step f ih a cap l hf hok hc hs hl

theorem isize_at (a : Option Addr) (n cap : Nat) (l : List Kd) (hn : l.length = n) (hs : sizeI l ≤ 1048576) (hl : n ≤ 1048576) : Fn Tryz.prog 82 [.iface 89 (.slice a n cap)] [rowR a 2 (l.map kdc)] (X := Unit) (fun _ => True) (fun _ => .int .i64 (sizeI l : Int)) (fun _ => [rowR a 2 (l.map kdc)]) := by
  subst hn
  exact isize_any a cap l hs hl

set_option maxHeartbeats 400000 in
theorem ipack1_any (bl : Nat) (a : Option Addr) (cap : Nat) (l : List Kd) (i j : Nat) (hi : i ≤ j) (hj : j ≤ l.length) (hc : l.length ≤ cap) (hs : sizeI l ≤ 1048576) (hl : l.length ≤ 1048576) :
    Fn Tryz.prog 103 [.int .i64 (i : Int), .int .i64 (j : Int), .pointer (some ⟨bl, 0, none⟩)] [pts bl (.cells [.slice a l.length cap].toArray 89), rowR a 2 (l.map kdc)] (X := Unit) (fun _ => True) (fun _ => .int .i64 (sizeI ((l.drop i).take (j - i)) : Int)) (fun _ => [pts bl (.cells [.slice a l.length cap].toArray 89), rowR a 2 (l.map kdc)]) := by
 refine Fn.mk' (n := 12) (l := [(0, .int .i64 (i : Int)), (1, .int .i64 (j : Int)), (2, .pointer (some ⟨bl, 0, none⟩))]) (fn := Tryz.f103) Tryz.func103 (by kernel_rfl) rfl rfl (by simp) rfl ?_
 intro h0 w0
 have hsd := Nat.le_trans (sizeI_take (l.drop i) (j - i)) (sizeI_drop l i)
 have hsub : ((l.map kdc).drop i).take (j - i) = ((l.drop i).take (j - i)).map kdc := by simp [List.map_drop, List.map_take]
 refine J.sr <| JL.as Ev.c <| JL.n4 <| JL.rd (Rd.ldN Tryz.isAgg89 (t3 rfl) (by repeat constructor) (by repeat constructor)) ?_
 refine JL.mv (t2 rfl) <| JL.mv (t4 rfl) <| JL.rd (Rd.slMid Tryz.runUnderlying89 Tryz.sizeOf91 (t2 rfl) (t1 rfl) (t0 rfl) (by omega) (by omega)) ?_
 refine JL.cut i (j - i) cap (show (l.map kdc).length ≤ cap by simp; omega) (by repeat constructor) ?_
 rw [hsub]
 refine JL.rd (Rd.iface (t0 rfl) Tryz.runUnderlying89 (fun _ h => by cases h)) <| JL.ef (Ef.call (.cons (t0 rfl) .nil) (isize_at (subA a 2 i cap) (j - i) (cap - i) ((l.drop i).take (j - i)) (by simp; omega) (by omega) (by omega)) (by repeat constructor) ?_)
 rintro - -
 simp only [cA, nA]
 exact JL.as (t0 rfl) <| JL.nr <| At.r (()) (trivial) (ResV.one rfl (t0 rfl)) rfl

set_option maxHeartbeats 400000 in
theorem ipack_step (f : Nat) (ih : ∀ (a : Option Addr) (n cap : Nat) (l : List Kd), l.length = n → l.length ≤ f → (∀ p ∈ l, kdOk p) → n ≤ cap → sizeI l ≤ 1048576 → n ≤ 1048576 → Fn Tryz.prog 85 [.slice a n cap] [rowR a 2 (l.map kdc)] (X := Option Addr × Nat × List NdV) (fun x => x.2.2.map (·.n) = (packF sizeI 2 f l).map .inner) (fun x => .slice x.1 x.2.2.length x.2.1) (fun x => [row x.1 x.2.1 76 1 (nvals x.2.2), nodesM x.2.2, rowR a 2 (l.map kdc)])) (a : Option Addr) (cap : Nat) (l : List Kd) (hf : l.length ≤ f + 1) (hok : ∀ p ∈ l, kdOk p) (hc : l.length ≤ cap) (hs : sizeI l ≤ 1048576) (hl : l.length ≤ 1048576) :
    Fn Tryz.prog 85 [.slice a l.length cap] [rowR a 2 (l.map kdc)] (X := Option Addr × Nat × List NdV) (fun x => x.2.2.map (·.n) = (packF sizeI 2 (f + 1) l).map .inner) (fun x => .slice x.1 x.2.2.length x.2.1) (fun x => [row x.1 x.2.1 76 1 (nvals x.2.2), nodesM x.2.2, rowR a 2 (l.map kdc)]) := by
 refine Fn.mk' (n := 29) (l := [(0, .slice a l.length cap)]) (fn := Tryz.f85) Tryz.func85 (by kernel_rfl) rfl rfl (by simp) rfl ?_
 intro h0 w0
 refine J.sr <| JL.ef (Ef.box (t0 rfl) rfl ?_)
 intro b1
 refine JL.as Ev.c <| JL.ns <| J.block <| J.sr <| JL.rd (Rd.ldN Tryz.isAgg89 (t1 rfl) (by repeat constructor) (by repeat constructor)) ?_
 refine JL.rd (Rd.len Tryz.runUnderlying89 (t0 rfl)) <| JL.rd (Rd.eql (t0 rfl) Ev.c) <| JL.as (t0 rfl) <| JL.n2 <| J.condD (t0 rfl) ?_ ?_
 intro hc2
 have hl0 : l = [] := List.eq_nil_of_length_eq_zero (by omega)
 exact J.sr <| JL.as Ev.c <| JL.nr <| At.blkR <| At.nextR <| At.ret ((none, 0, [])) (by rw [hl0, packF_nil]; rfl) (ResV.one rfl (t0 rfl)) rfl (fun _ s => by have s1 := row_nil 76 1 (nodesM_nil s); exact Stars.sel (by repeat constructor) s1)
 intro hc2
 have hl0 : l ≠ [] := fun e => hc2 (by rw [e]; rfl)
 refine J.sr <| JL.rd (Rd.ldN Tryz.isAgg89 (t5 rfl) (by repeat constructor) (by repeat constructor)) ?_
 refine JL.rd (Rd.iface (t0 rfl) Tryz.runUnderlying89 (fun _ h => by cases h)) <| JL.ef (Ef.call (.cons (t0 rfl) .nil) (ifits_any a cap l hs hl) (by repeat constructor) ?_)
 rintro - -
 simp only [cA, nA]
 refine JL.as (t0 rfl) <| JL.n2 <| J.condD (t0 rfl) ?_ ?_
 intro hc3
 have hfit : sizeI l ≤ 505 := by omega
 refine J.sr <| JL.rd (Rd.ldN Tryz.isAgg89 (t9 rfl) (by repeat constructor) (by repeat constructor)) ?_
 refine JL.rd (Rd.iface (t0 rfl) Tryz.runUnderlying89 (fun _ h => by cases h)) <| JL.ef (Ef.slit1 elt_132 (t0 rfl) rfl rfl (by decide) ?_)
 intro b4
 exact JL.as (t0 rfl) <| JL.nr <| At.blkR <| At.nextR <| At.ret ((some ⟨b4, 0, none⟩, 1, [⟨a, cap, .inner l⟩])) (by rw [packF_fits hl0 hfit]; rfl) (ResV.one rfl (t0 rfl)) rfl (fun _ s => by have s1 := rowR_dup (Stars.sel (pre := [rowR a 2 (l.map kdc), row (some ⟨b4, 0, none⟩) 1 76 1 [[.iface 89 (.slice a l.length cap)]]]) (by repeat constructor) s); have s2 := nodesM_one (x := ⟨a, cap, .inner l⟩) (by show (l.map kdc).length ≤ cap; simp; exact hc) s1; have s3 := Stars.sel (pre := [row (some ⟨b4, 0, none⟩) 1 76 1 (nvals [⟨a, cap, .inner l⟩]), nodesM [⟨a, cap, .inner l⟩], rowR a 2 (l.map kdc)]) (by repeat constructor) s2; exact s3)
 intro hc3
 have hfit : ¬ sizeI l ≤ 505 := by omega
 have hdv := divI.2 l hok (by omega)
 have hhv := halves_le (cost := cost sizeI l) hdv
 have hcost : costC (fun i j => sizeI ((l.drop i).take (j - i))) l.length = cost sizeI l := by
   funext i
   simp only [costC, cost, List.drop_zero, Nat.sub_zero]
   rw [List.take_of_length_le (l := l.drop i) (by simp)]
 refine J.skip <| At.blkN <| At.next <| J.sr <| JL.rd (Rd.ldN Tryz.isAgg89 (t9 rfl) (by repeat constructor) (by repeat constructor)) ?_
 refine JL.rd (Rd.len Tryz.runUnderlying89 (t0 rfl)) <| JL.rd (Rd.mkfunc .nil (.cons (t11 rfl) .nil)) <| JL.ef (Ef.call (.cons (t1 rfl) (.cons Ev.c (.cons (t0 rfl) .nil))) (halves_list l.length 2 hl hdv 103 [.pointer (some ⟨b1, 0, none⟩)] (fun i j => sizeI ((l.drop i).take (j - i))) [pts b1 (.cells [.slice a l.length cap].toArray 89), rowR a 2 (l.map kdc)] (fun i j h1 h2 => ipack1_any b1 a cap l i j h1 h2 hc hs hl)) (by repeat constructor) ?_)
 rintro - -
 rw [hcost]
 simp only [cA, nA]
 refine JL.as (t0 rfl) <| JL.ns <| J.cut 0 (halves l.length 2 (cost sizeI l)) cap (show (l.map kdc).length ≤ cap by simp; omega) (by repeat constructor) ?_
 refine J.cut (halves l.length 2 (cost sizeI l)) l.length cap (show (l.map kdc).length ≤ cap by simp; omega) (.there .here) ?_
 rw [subA_zero, show ((l.map kdc).drop 0).take (halves l.length 2 (cost sizeI l)) = (l.take (halves l.length 2 (cost sizeI l))).map kdc by simp [List.map_take], show ((l.map kdc).drop (halves l.length 2 (cost sizeI l))).take l.length = (l.drop (halves l.length 2 (cost sizeI l))).map kdc by rw [List.take_of_length_le (by simp), List.map_drop]]
 refine J.draw [lz, lz, lz, lz, ⟨true, 0, 0⟩, ⟨false, 0, 1⟩, ⟨false, 0, 1⟩, ⟨false, 0, 1⟩, ⟨true, 1, 1⟩, ⟨true, 2, 2⟩, ⟨false, 3, 3⟩] [4, 8, 9] mixed rfl <| DRun.at [] [0, 1, 2, 3, 5, 6, 7] rfl rfl ?_ ?_
 exact .nil
 refine DNew.rd rfl (Rd.ldN Tryz.isAgg89 (t14 rfl) (by repeat constructor) (by repeat constructor)) ?_
 refine DNew.rd rfl (Rd.move (t1 rfl)) <| DNew.rd rfl (Rd.move (t2 rfl)) <| DNew.rd rfl (Rd.slMax Tryz.runUnderlying89 Tryz.sizeOf91 (t2 rfl) (t1 rfl) (t0 rfl) (by omega) (by omega)) ?_
 refine DNew.rd rfl (Rd.ldN Tryz.isAgg89 (t18 rfl) (by repeat constructor) (by repeat constructor)) ?_
 refine DNew.rd rfl (Rd.move (t5 rfl)) <| DNew.rd rfl (Rd.slFrom Tryz.runUnderlying89 Tryz.sizeOf91 (t1 rfl) (t0 rfl) (by omega)) ?_
 refine DNew.nil <| DRun.ef rfl (Ef.call (.cons (t3 rfl) .nil) (ih a (halves l.length 2 (cost sizeI l)) (halves l.length 2 (cost sizeI l)) (l.take (halves l.length 2 (cost sizeI l))) (by simp; omega) (by simp; omega) (fun p hp => hok p (List.mem_of_mem_take hp)) (Nat.le_refl _) (Nat.le_trans (sizeI_take l _) hs) (by omega)) (by repeat constructor) ?_)
 rintro ⟨ra, rc, xs⟩ hxs
 simp only [cA, nA]
 refine DRun.at [5, 6, 7] [] rfl rfl ?_ ?_
 refine DCar.rd rfl (lk3 rfl) (Rd.ldN Tryz.isAgg89 (t22 rfl) (by repeat constructor) (by repeat constructor)) ?_
 refine DCar.rd rfl (lk2 rfl) (Rd.move (t8 rfl)) <| DCar.rd rfl (lk1 rfl) (Rd.slFrom Tryz.runUnderlying89 Tryz.sizeOf91 (t3 rfl) (t2 rfl) (by omega)) ?_
 exact .nil
 refine DNew.nil <| DRun.ef rfl (Ef.call (.cons (t1 rfl) .nil) (ih (subA a 2 (halves l.length 2 (cost sizeI l)) cap) (l.length - (halves l.length 2 (cost sizeI l))) (cap - (halves l.length 2 (cost sizeI l))) (l.drop (halves l.length 2 (cost sizeI l))) (by simp) (by simp; omega) (fun p hp => hok p (List.mem_of_mem_drop hp)) (by omega) (Nat.le_trans (sizeI_drop l _) hs) (by omega)) (by repeat constructor) ?_)
 rintro ⟨rb, rd, ys⟩ hys
 have hxl := congrArg List.length hxs
 have hyl := congrArg List.length hys
 simp only [List.length_map] at hxl hyl
 have hx2 := packF_len divI f (l.take (halves l.length 2 (cost sizeI l))) (fun p hp => hok p (List.mem_of_mem_take hp))
 have hy2 := packF_len divI f (l.drop (halves l.length 2 (cost sizeI l))) (fun p hp => hok p (List.mem_of_mem_drop hp))
 rw [List.length_take] at hx2
 rw [List.length_drop] at hy2
 simp only [cA, nA]
 refine DRun.at [] [] rfl rfl ?_ ?_
 exact .nil
 refine DNew.nil <| DRun.ef rfl (Ef.appS elt_132 (t1 rfl) (t0 rfl) (by repeat constructor) (Src.i (by repeat constructor)) (by first | (simp; done) | (simp; omega) | omega | (simp [*]; done) | (simp [*]; omega)) (by first | (simp; done) | (simp; omega) | omega | (simp [*]; done) | (simp [*]; omega)) nvals_one (by first | omega | (simp; omega)) (by first | (simp only [maxLen]; omega) | (simp [maxLen]; omega)) ?_)
 intro a5 c6
 refine DRun.end [] [10] rfl rfl ?_ ?_
 exact .nil
 exact DNew.rd rfl (Rd.assign (t0 rfl)) <| DNew.n2 <| J.ret <| At.ret ((a5, c6, xs ++ ys)) (by show (xs ++ ys).map _ = _; rw [packF_split hl0 hfit, List.map_append, List.map_append]; dsimp only at hxs hys; rw [hxs, hys]) (ResV.one rfl (t0 rfl)) (by simp) (fun _ s => by have s1 := Stars.sel (pre := [nodesM xs, nodesM ys, row a5 c6 76 1 (nvals xs ++ nvals ys), rowR a 2 (l.map kdc)]) (by repeat constructor) s; have s2 := nodesM_append s1; rw [show nvals xs ++ nvals ys = nvals (xs ++ ys) by simp [nvals]] at s2; exact Stars.sel (by repeat constructor) s2)

set_option maxHeartbeats 400000 in
theorem ipack_nil (a : Option Addr) (cap : Nat) :
    Fn Tryz.prog 85 [.slice a 0 cap] [] (X := Unit) (fun _ => True) (fun _ => .slice none 0 0) (fun _ => []) := by
 refine Fn.mk' (n := 29) (l := [(0, .slice a 0 cap)]) (fn := Tryz.f85) Tryz.func85 (by kernel_rfl) rfl rfl (by simp) rfl ?_
 intro h0 w0
 refine J.sr <| JL.ef (Ef.box (t0 rfl) rfl ?_)
 intro b1
 refine JL.as Ev.c <| JL.ns <| J.block <| J.sr <| JL.rd (Rd.ldN Tryz.isAgg89 (t1 rfl) (by repeat constructor) (by repeat constructor)) ?_
 exact JL.rd (Rd.len Tryz.runUnderlying89 (t0 rfl)) <| JL.rd (Rd.eql (t0 rfl) Ev.c) <| JL.as (t0 rfl) <| JL.n2 <| J.condT (EvB (t0 rfl) rfl) <| J.sr <| JL.as Ev.c <| JL.nr <| At.blkR <| At.nextR <| At.r (()) (trivial) (ResV.one rfl (t0 rfl)) rfl

theorem ipack_all : ∀ (f : Nat) (a : Option Addr) (n cap : Nat) (l : List Kd), l.length = n → l.length ≤ f → (∀ p ∈ l, kdOk p) → n ≤ cap → sizeI l ≤ 1048576 → n ≤ 1048576 → Fn Tryz.prog 85 [.slice a n cap] [rowR a 2 (l.map kdc)] (X := Option Addr × Nat × List NdV) (fun x => x.2.2.map (·.n) = (packF sizeI 2 f l).map .inner) (fun x => .slice x.1 x.2.2.length x.2.1) (fun x => [row x.1 x.2.1 76 1 (nvals x.2.2), nodesM x.2.2, rowR a 2 (l.map kdc)]) := by
  intro f
  induction f with
  | zero =>
    intro a n cap l hn hf _ _ _ _
    have : l = [] := List.eq_nil_of_length_eq_zero (by omega)
    subst this
    simp only [List.length_nil] at hn
    subst hn
    refine (ipack_nil a cap).cvx (fun _ => ((none, 0, []) : Option Addr × Nat × List NdV)) (fun _ _ => by rw [packF_nil]; rfl) (fun _ _ => trivial) (fun _ _ => rfl) fun _ h _ s => ?_
    have s1 := row_nil 76 1 (nodesM_nil (rowR_nil a 2 s))
    exact s1
  | succ f ih =>
    intro a n cap l hn hf hok hc hs hl
    subst hn
    exact ipack_step f ih a cap l hf hok hc hs hl
theorem crc_take {l : Bs} {x : Nat} {c : UInt8} (h : l[x]? = some c) (r : UInt32) : crcFrom r (l.take (x + 1)) = crcByte (crcFrom r (l.take x)) c := by
  rw [take_step h]
  simp [crcFrom]
theorem b1s_at {l : Bs} {x : Nat} (h : x < l.length) : l[x]? = some (l.getD x 0) := by
  rw [List.getD_eq_getElem?_getD, List.getElem?_eq_getElem h]; rfl
theorem crcBit_odd {r : UInt32} (h : ((r &&& 1).toNat : Int) = 1) : crcBit r = (r >>> 1) ^^^ 0xEDB88320 := by
  unfold crcBit
  rw [if_pos]
  exact UInt32.toNat_inj.1 (by show _ = 1; omega)
theorem crcBit_even {r : UInt32} (h : ¬ ((r &&& 1).toNat : Int) = 1) : crcBit r = r >>> 1 := by
  unfold crcBit
  rw [if_neg]
  intro e
  rw [e] at h
  exact h rfl
theorem shr1 (r : UInt32) : ((r.toNat / 2 ^ 1 : Nat) : Int) = ((r >>> 1).toNat : Int) := by
  rw [UInt32.toNat_shiftRight]; simp [Nat.shiftRight_eq_div_pow]
theorem u8_32 (c : UInt8) : (c.toNat : Int) = (c.toUInt32.toNat : Int) := by simp

set_option maxHeartbeats 400000 in
theorem crc_any (a : Option Addr) (n cap : Nat) (l : Bs) (hln : l.length = n) (hl : n ≤ 1048576) (A : Assn) (hA : ∀ {hs hs1 : List Assn}, Take A hs hs1 → SIn hs a 1 (b1s l)) :
    Fn Tryz.prog 76 [.slice a n cap] [A] (X := Unit) (fun _ => True) (fun _ => .int .u32 ((crcB l).toNat : Int)) (fun _ => [A]) := by
 refine Fn.mk' (n := 30) (l := [(0, .slice a n cap)]) (fn := Tryz.f76) Tryz.func76 (by kernel_rfl) rfl rfl (by simp) rfl ?_
 intro h0 w0
 refine J.sr <| JL.as Ev.c <| JL.n4 <| JL.as Ev.c <| JL.n5 <| JL.mv (t2 rfl) <| JL.rd (Rd.len Tryz.runUnderlying122 (t0 rfl)) <| JL.mv Ev.c <| JL.nb <| J.loop (X := Nat) (fun (x : Nat) => [(8, .int .i64 (x : Int)), (3, .int .u32 ((crcFrom (~~~ 0) (l.take x)).toNat : Int))]) (K := [(7, _), (6, _), (2, _)]) (fun x => [A]) (fun x => x ≤ n) (fun x => n - x) (0) ?_ ⟨lk0.trans (by first | (first | (rw [hfin]; done) | rfl; done) | with_reducible rfl | (congr 1; omega) | (simp; done) | (simp [*]; done)), (lk3 rfl).trans (by first | (first | (rw [hfin]; done) | rfl; done) | with_reducible rfl | (congr 1; omega) | (simp; done) | (simp [*]; done)), trivial⟩ ⟨(lk1 rfl), (lk2 rfl), (lk4 rfl), trivial⟩ (fun _ => Stars.sel (by repeat constructor)) ?_
 exact Nat.zero_le _
 intro x ρ hp
 simp only [cA, nA]
 refine J.sr <| JL.rd (Rd.lss (t0 rfl) (t2 rfl)) <| JL.ns <| J.condD (t0 rfl) ?_ ?_
 intro hc1
 have hxl : x < l.length := by omega
 have hcl := (l.getD x 0).toNat_lt
 refine J.skip <| At.next <| J.seq <| J.block <| J.sr <| JL.rd (Rd.byIdx Tryz.runUnderlying122 Tryz.sizeOf5 (t4 rfl) (t1 rfl) (by first | (apply SIn.bytes; (repeat constructor); done) | (apply SIn.rowR; (repeat constructor); done) | (apply hA; (repeat constructor); done)) (by first | (simp; done) | (simp; omega) | omega | (simp [*]; done) | (simp [*]; omega)) (by omega) (by omega)) ?_
 refine JL.rd (Rd.byLd Tryz.isAgg5 (t0 rfl) (by first | (apply SIn.bytes; (repeat constructor); done) | (apply SIn.rowR; (repeat constructor); done) | (apply hA; (repeat constructor); done)) (by first | (simp; done) | (simp; omega) | omega | (simp [*]; done) | (simp [*]; omega))) ?_
 simp only [Int.toNat_natCast]
 refine JL.as (t0 rfl) <| JL.n4 <| JL.mv (t5 rfl) <| JL.mv (t1 rfl) <| JL.rd (Rd.conv (t0 rfl) (fun w => ⟨_, Tryz.runUnderlying5 w⟩) Tryz.runUnderlying148 (w32 (by omega) (by omega))) ?_
 rw [u8_32]
 refine JL.rd (Rd.xor32 (t2 rfl) (t0 rfl)) <| JL.as (t0 rfl) <| JL.n4 <| JL.mv Ev.c <| JL.nb <| J.loop (X := Nat) (fun (k : Nat) => [(16, .int .i64 (k : Int)), (3, .int .u32 ((crcN k (crcFrom (~~~ 0) (l.take x) ^^^ (l.getD x 0).toUInt32)).toNat : Int))]) (K := [(8, _), (7, _), (6, _), (2, _)]) (fun k => [A]) (fun k => k ≤ 8) (fun k => 8 - k) (0) ?_ ⟨lk0.trans (by first | (first | (rw [crcN_succ, hbit]; done) | rfl; done) | with_reducible rfl | (congr 1; omega) | (simp; done) | (simp [*]; done)), (lk1 rfl).trans (by first | (first | (rw [crcN_succ, hbit]; done) | rfl; done) | with_reducible rfl | (congr 1; omega) | (simp; done) | (simp [*]; done)), trivial⟩ ⟨(lk10 rfl), (lk12 rfl), (lk13 rfl), (lk14 rfl), trivial⟩ (fun _ => Stars.sel (by repeat constructor)) ?_
 exact Nat.zero_le _
 intro k ρ hk
 simp only [cA, nA]
 refine J.sr <| JL.rd (Rd.lss (t0 rfl) Ev.c) <| JL.ns <| J.condD (t0 rfl) ?_ ?_
 intro hc2
 refine J.skip <| At.next <| J.seq <| J.block <| J.sr <| JL.mv (t2 rfl) <| JL.rd (Rd.and32 (c := 1) (t0 rfl) Ev.c) <| JL.rd (Rd.eql (t0 rfl) Ev.c) <| JL.n2 <| J.condD (t0 rfl) ?_ ?_
 intro hc3
 have hbit := crcBit_odd hc3
 refine J.region <| JL.mv (t5 rfl) <| JL.rd (Rd.shrN (n := 1) (t0 rfl) Ev.c (by decide)) ?_
 rw [shr1]
 refine JL.rd (Rd.xor32 (c := 3988292384) (t0 rfl) Ev.c) <| JL.as (t0 rfl) <| JL.nil <| At.blkN <| At.next <| J.region <| JL.rd (Rd.add (t8 rfl) Ev.c (w64 (by omega) (by omega))) ?_
 refine JL.mv (t0 rfl) <| JL.nil <| At.again (k + 1) ?_ ?_ ⟨lk0.trans (by first | (first | (rw [crcN_succ, hbit]; done) | rfl; done) | with_reducible rfl | (congr 1; omega) | (simp; done) | (simp [*]; done)), (lk2 rfl).trans (by first | (first | (rw [crcN_succ, hbit]; done) | rfl; done) | with_reducible rfl | (congr 1; omega) | (simp; done) | (simp [*]; done)), trivial⟩ ⟨(lk12 rfl), (lk13 rfl), (lk14 rfl), (lk15 rfl), trivial⟩ (fun _ => Stars.sel (by repeat constructor))
 omega
 omega
 intro hc3
 have hbit := crcBit_even hc3
 refine J.region <| JL.mv (t5 rfl) <| JL.rd (Rd.shrN (n := 1) (t0 rfl) Ev.c (by decide)) ?_
 rw [shr1]
 refine JL.as (t0 rfl) <| JL.nil <| At.blkN <| At.next <| J.region <| JL.rd (Rd.add (t7 rfl) Ev.c (w64 (by omega) (by omega))) ?_
 refine JL.mv (t0 rfl) <| JL.nil <| At.again (k + 1) ?_ ?_ ⟨lk0.trans (by first | (first | (rw [crcN_succ, hbit]; done) | rfl; done) | with_reducible rfl | (congr 1; omega) | (simp; done) | (simp [*]; done)), (lk2 rfl).trans (by first | (first | (rw [crcN_succ, hbit]; done) | rfl; done) | with_reducible rfl | (congr 1; omega) | (simp; done) | (simp [*]; done)), trivial⟩ ⟨(lk11 rfl), (lk12 rfl), (lk13 rfl), (lk14 rfl), trivial⟩ (fun _ => Stars.sel (by repeat constructor))
 omega
 omega
 intro hc2
 obtain rfl : k = 8 := by simp at hc2; omega
 have hfin := crc_take (b1s_at hxl) (~~~ 0)
 unfold crcByte at hfin
 refine J.exit <| At.nextX <| At.loopX <| At.blkX <| At.blkN <| At.next <| J.region <| JL.rd (Rd.add (t3 rfl) Ev.c (w64 (by omega) (by omega))) ?_
 refine JL.mv (t0 rfl) <| JL.nil <| At.again (x + 1) ?_ ?_ ⟨lk0.trans (by first | (first | (rw [hfin]; done) | rfl; done) | with_reducible rfl | (congr 1; omega) | (simp; done) | (simp [*]; done)), (lk4 rfl).trans (by first | (first | (rw [hfin]; done) | rfl; done) | with_reducible rfl | (congr 1; omega) | (simp; done) | (simp [*]; done)), trivial⟩ ⟨(lk6 rfl), (lk7 rfl), (lk8 rfl), trivial⟩ (fun _ => Stars.sel (by repeat constructor))
 omega
 omega
 intro hc1
 obtain rfl : x = n := by omega
 rw [List.take_of_length_le (by omega)]
 exact J.exit <| At.nextX <| At.loopX <| At.blkX <| At.next <| J.sr <| JL.mv (t2 rfl) <| JL.rd (Rd.not32 (t0 rfl)) <| JL.as (t0 rfl) <| JL.nr <| At.r (()) (trivial) (ResV.one rfl (t0 rfl)) (by unfold crcB; rfl)
theorem SIn.pre {hs : List Assn} {a : Option Addr} {l m : Bs} (h : SIn hs a 1 (b1s (l ++ m))) : SIn hs a 1 (b1s l) := by
  have h2 := h.sub 0 l.length (b1s (l ++ m)).length (Nat.le_refl _)
  rw [subA_zero] at h2
  have e : ((b1s (l ++ m)).drop 0).take l.length = b1s l := by simp [b1s]
  rwa [e] at h2
theorem set3 (a b c : UInt8) (m : Bs) (hm : m.length ≤ 505) : ((((List.replicate 512 (0 : UInt8)).set 0 a).set 1 b).set 2 c).take 3 ++ m ++ ((((List.replicate 512 (0 : UInt8)).set 0 a).set 1 b).set 2 c).drop (3 + m.length) = a :: b :: c :: m ++ List.replicate (505 - m.length) 0 ++ List.replicate 4 0 := by
  have e : (((List.replicate 512 (0 : UInt8)).set 0 a).set 1 b).set 2 c = a :: b :: c :: List.replicate 509 0 := rfl
  rw [e]
  have e2 : (a :: b :: c :: List.replicate 509 (0 : UInt8)).drop (3 + m.length) = List.replicate (509 - m.length) 0 := by
    rw [Nat.add_comm 3]
    show (List.replicate 509 (0 : UInt8)).drop m.length = _
    exact List.drop_replicate
  rw [e2, show 509 - m.length = 505 - m.length + 4 by omega, ← List.replicate_append_replicate, ← List.append_assoc]
  rfl
theorem le4_step {s : UInt32} {p : Bs} {x : Nat} (hp : p.length = 508) (hx : x < 4) : (p ++ (le4 s).take x ++ List.replicate (4 - x) 0).set (508 + x) (UInt8.ofNat (s.toNat / 2 ^ (8 * x))) = p ++ (le4 s).take (x + 1) ++ List.replicate (4 - (x + 1)) 0 := by
  have h4 : (le4 s)[x]? = some (UInt8.ofNat (s.toNat / 2 ^ (8 * x))) := by simp [le4, hx]
  have hl : (p ++ (le4 s).take x).length = 508 + x := by simp [hp]; omega
  rw [List.set_append_right _ _ (by omega), hl, Nat.sub_self, show 4 - x = 4 - (x + 1) + 1 by omega, List.replicate_succ, List.set_cons_zero, take_step h4]
  simp

set_option maxHeartbeats 400000 in
theorem lenc_any (a : Option Addr) (cap : Nat) (l : List It) (hz0 : 0 < sizeL l) (hs : sizeL l ≤ 505) (hl : l.length ≤ 1048576) :
    Fn Tryz.prog 114 [.iface 85 (.slice a l.length cap)] [rowR a 2 (l.map itc)] (X := Nat) (fun _ => True) (fun x => .slice (some ⟨x, 0, none⟩) 512 512) (fun x => [bytesA (some ⟨x, 0, none⟩) 512 (ndEnc (.leaf l)), rowR a 2 (l.map itc)]) := by
 refine Fn.mk' (n := 50) (l := [(0, .iface 85 (.slice a l.length cap))]) (fn := Tryz.f114) Tryz.func114 (by kernel_rfl) rfl rfl (by simp) rfl ?_
 intro h0 w0
 have hpl : (ndPre (.leaf l)).length = 508 := ndPre_length (n := .leaf l) hs
 have hbl : (leafB l).length = sizeL l := rfl
 refine J.sr <| JL.as Ev.c <| JL.n4 <| JL.mv (t1 rfl) <| JL.ef (Ef.callm (t0 rfl) (mth_lbytes _) .nil (lbytes_any a cap l (by omega) hl) (by repeat constructor) ?_)
 rintro ⟨b, c⟩ -
 simp only [cA, nA]
 refine JL.mv (t0 rfl) <| JL.e (t0 rfl) <| JL.e (t1 rfl) <| JL.e (t2 rfl) <| JL.as (t2 rfl) <| JL.as (t2 rfl) <| JL.as (t2 rfl) <| JL.n4 <| JL.ef (Ef.mkbytes (n := 512) (i := Tryz.t5) Tryz.runUnderlying122 (fun w => by kernel_rfl) Tryz.sizeOf5 Tryz.zeroValue5 Ev.c Ev.c (by decide) (by decide) (by decide) ?_)
 intro b1
 refine JL.as (t0 rfl) <| JL.n4 <| JL.mv (t0 rfl) <| JL.mv (t1 rfl) <| JL.mv (t2 rfl) <| JL.mv (t7 rfl) <| JL.rd (Rd.conv8 (n := 1) (t0 rfl) (fun w => ⟨_, Tryz.runUnderlying3 w⟩) Tryz.runUnderlying5) <| JL.mv (t8 rfl) <| JL.rd (Rd.shrN (n := 8) (t0 rfl) Ev.c (by decide)) ?_
 refine JL.rd (Rd.conv8 (t0 rfl) (fun w => ⟨_, Tryz.runUnderlying3 w⟩) Tryz.runUnderlying5) <| JL.mv (t11 rfl) <| JL.rd (Rd.conv8 (t0 rfl) (fun w => ⟨_, Tryz.runUnderlying3 w⟩) Tryz.runUnderlying5) <| JL.rd (Rd.byIdx Tryz.runUnderlying122 Tryz.sizeOf5 (t9 rfl) Ev.c (Src.i (by repeat constructor)) (by first | (simp; done) | (simp; omega) | omega | (simp [*]; done) | (simp [*]; omega)) (by omega) (by omega)) ?_
 refine JL.ef0 (Ef.bySt Tryz.sizeOf5 (t0 rfl) (t6 rfl) (by repeat constructor) (by first | (simp; done) | (simp; omega) | omega | (simp [*]; done) | (simp [*]; omega)) ?_)
 refine JL.rd (Rd.byIdx Tryz.runUnderlying122 Tryz.sizeOf5 (t9 rfl) Ev.c (Src.i (by repeat constructor)) (by first | (simp; done) | (simp; omega) | omega | (simp [*]; done) | (simp [*]; omega)) (by omega) (by omega)) ?_
 refine JL.ef0 (Ef.bySt Tryz.sizeOf5 (t0 rfl) (t4 rfl) (by repeat constructor) (by first | (simp; done) | (simp; omega) | omega | (simp [*]; done) | (simp [*]; omega)) ?_)
 refine JL.rd (Rd.byIdx Tryz.runUnderlying122 Tryz.sizeOf5 (t9 rfl) Ev.c (Src.i (by repeat constructor)) (by first | (simp; done) | (simp; omega) | omega | (simp [*]; done) | (simp [*]; omega)) (by omega) (by omega)) ?_
 refine JL.ef0 (Ef.bySt Tryz.sizeOf5 (t0 rfl) (t3 rfl) (by repeat constructor) (by first | (simp; done) | (simp; omega) | omega | (simp [*]; done) | (simp [*]; omega)) ?_)
 refine JL.n4 <| JL.mv (t13 rfl) <| JL.rd (Rd.slFrom (i := 3) Tryz.runUnderlying122 Tryz.sizeOf5 (t0 rfl) Ev.c (by omega)) ?_
 rw [show subA (some ⟨b1, 0, none⟩) 1 3 512 = some ⟨b1, 3, none⟩ from rfl]
 refine JL.mv (t17 rfl) <| JL.ef (Ef.copyB (t := 122) rfl Tryz.runUnderlying122 Tryz.sizeOf5 (t1 rfl) (t0 rfl) (by repeat constructor) (SIn.row (by repeat constructor)) hbl hz0 (by omega) (by simp) (by omega) ?_)
 refine JL.ns <| J.live (K := [(6, _), (2, _)]) ⟨(lk17 rfl), (lk28 rfl), trivial⟩ ?_
 intro ρ2
 have hset := set3 (UInt8.ofNat 1) (UInt8.ofNat (l.length / 2 ^ 8)) (UInt8.ofNat l.length) (leafB l) (by rw [hbl]; exact hs)
 rw [hbl] at hset
 have hpre : (ndPre (.leaf l)) = UInt8.ofNat 1 :: UInt8.ofNat (l.length / 2 ^ 8) :: UInt8.ofNat l.length :: leafB l ++ List.replicate (505 - sizeL l) 0 := rfl
 rw [← hpre] at hset
 rw [show ((((List.replicate 512 (0 : UInt8)).set (0 : Int).toNat (UInt8.ofNat 1)).set (1 : Int).toNat (UInt8.ofNat (l.length / 2 ^ 8))).set (2 : Int).toNat (UInt8.ofNat l.length)) = ((((List.replicate 512 (0 : UInt8)).set 0 (UInt8.ofNat 1)).set 1 (UInt8.ofNat (l.length / 2 ^ 8))).set 2 (UInt8.ofNat l.length)) from rfl, hset]
 refine J.region <| JL.mv (t0 rfl) <| JL.rd (Rd.slToN (j := 508) Tryz.runUnderlying122 Tryz.sizeOf5 (t0 rfl) Ev.c (by omega)) ?_
 refine JL.ef (Ef.call (.cons (t0 rfl) .nil) (crc_any (some ⟨b1, 0, none⟩) 508 512 (ndPre (.leaf l)) hpl (by decide) (bytesA (some ⟨b1, 0, none⟩) 512 ((ndPre (.leaf l)) ++ List.replicate 4 0)) (fun t => SIn.pre (SIn.bytes t))) (by repeat constructor) ?_)
 rintro - -
 simp only [cA, nA]
 refine JL.as (t0 rfl) <| JL.n5 <| JL.mv Ev.c <| JL.nb <| J.loop (X := Nat) (fun (x : Nat) => [(36, .int .i64 (x : Int))]) (K := [(7, _), (6, _), (2, _)]) (fun x => [bytesA (some ⟨b1, 0, none⟩) 512 ((ndPre (.leaf l)) ++ (le4 (crcB (ndPre (.leaf l)))).take x ++ List.replicate (4 - x) 0), rowR a 2 (l.map itc)]) (fun x => x ≤ 4) (fun x => 4 - x) (0) ?_ ⟨lk0.trans (by first | with_reducible rfl | (congr 1; omega) | (simp; done) | (simp [*]; done)), trivial⟩ ⟨(lk1 rfl), (lk5 rfl), (lk6 rfl), trivial⟩ (fun _ s => by rw [List.take_zero, List.append_nil]; exact Stars.sel (by repeat constructor) s) ?_
 exact Nat.zero_le _
 intro x ρ hp
 simp only [cA, nA]
 refine J.sr <| JL.rd (Rd.lss (t0 rfl) Ev.c) <| JL.ns <| J.condD (t0 rfl) ?_ ?_
 intro hc3
 refine J.skip <| At.next <| J.seq <| J.block <| J.sr <| JL.mv (t1 rfl) <| JL.as (t0 rfl) <| JL.n2 <| J.region <| JL.mv (t5 rfl) <| JL.mv (t1 rfl) <| JL.rd (Rd.add Ev.c (t0 rfl) (w64 (by omega) (by omega))) ?_
 refine JL.mv (t7 rfl) <| JL.mv (t4 rfl) <| JL.rd (Rd.mul Ev.c (t0 rfl) (w64 (by omega) (by omega))) ?_
 refine JL.rd (Rd.shrN (a := (crcB (ndPre (.leaf l))).toNat) (n := 8 * x) (t2 rfl) (t0 rfl) (by show 8 * x ≤ 32; omega)) ?_
 refine JL.rd (Rd.conv8 (t0 rfl) (fun w => ⟨_, Tryz.runUnderlying148 w⟩) Tryz.runUnderlying5) <| JL.rd (Rd.byIdx Tryz.runUnderlying122 Tryz.sizeOf5 (t7 rfl) (t5 rfl) (Src.i (by repeat constructor)) (by first | (simp; done) | (simp; omega) | omega | (simp [*]; done) | (simp [*]; omega)) (by omega) (by omega)) ?_
 refine JL.ef0 (Ef.bySt Tryz.sizeOf5 (t0 rfl) (t1 rfl) (by repeat constructor) (by first | (simp; done) | (simp; omega) | omega | (simp [*]; done) | (simp [*]; omega)) ?_)
 refine JL.nil <| At.blkN <| At.next <| J.region <| JL.rd (Rd.add (t12 rfl) Ev.c (w64 (by omega) (by omega))) ?_
 refine JL.mv (t0 rfl) <| JL.nil ?_
 rw [show ((508 : Int) + (x : Int)).toNat = 508 + x by omega, le4_step hpl (by omega)]
 refine At.again (x + 1) ?_ ?_ ⟨lk0.trans (by first | with_reducible rfl | (congr 1; omega) | (simp; done) | (simp [*]; done)), trivial⟩ ⟨(lk15 rfl), (lk16 rfl), (lk17 rfl), trivial⟩ (fun _ => Stars.sel (by repeat constructor))
 omega
 omega
 intro hc3
 obtain rfl : x = 4 := by omega
 rw [List.take_of_length_le (by simp), Nat.sub_self, List.replicate_zero, List.append_nil]
 exact J.exit <| At.nextX <| At.loopX <| At.blkX <| At.next <| J.sr <| JL.mv (t3 rfl) <| JL.as (t0 rfl) <| JL.nr <| At.r (b1) (trivial) (ResV.one rfl (t0 rfl)) rfl

set_option maxHeartbeats 400000 in
theorem ienc_any (a : Option Addr) (cap : Nat) (l : List Kd) (hz0 : 0 < sizeI l) (hs : sizeI l ≤ 505) (hl : l.length ≤ 1048576) :
    Fn Tryz.prog 114 [.iface 89 (.slice a l.length cap)] [rowR a 2 (l.map kdc)] (X := Nat) (fun _ => True) (fun x => .slice (some ⟨x, 0, none⟩) 512 512) (fun x => [bytesA (some ⟨x, 0, none⟩) 512 (ndEnc (.inner l)), rowR a 2 (l.map kdc)]) := by
 refine Fn.mk' (n := 50) (l := [(0, .iface 89 (.slice a l.length cap))]) (fn := Tryz.f114) Tryz.func114 (by kernel_rfl) rfl rfl (by simp) rfl ?_
 intro h0 w0
 have hpl : (ndPre (.inner l)).length = 508 := ndPre_length (n := .inner l) hs
 have hbl : (innerB l).length = sizeI l := rfl
 refine J.sr <| JL.as Ev.c <| JL.n4 <| JL.mv (t1 rfl) <| JL.ef (Ef.callm (t0 rfl) (mth_ibytes _) .nil (ibytes_any a cap l (by omega) hl) (by repeat constructor) ?_)
 rintro ⟨b, c⟩ -
 simp only [cA, nA]
 refine JL.mv (t0 rfl) <| JL.e (t0 rfl) <| JL.e (t1 rfl) <| JL.e (t2 rfl) <| JL.as (t2 rfl) <| JL.as (t2 rfl) <| JL.as (t2 rfl) <| JL.n4 <| JL.ef (Ef.mkbytes (n := 512) (i := Tryz.t5) Tryz.runUnderlying122 (fun w => by kernel_rfl) Tryz.sizeOf5 Tryz.zeroValue5 Ev.c Ev.c (by decide) (by decide) (by decide) ?_)
 intro b1
 refine JL.as (t0 rfl) <| JL.n4 <| JL.mv (t0 rfl) <| JL.mv (t1 rfl) <| JL.mv (t2 rfl) <| JL.mv (t7 rfl) <| JL.rd (Rd.conv8 (n := 2) (t0 rfl) (fun w => ⟨_, Tryz.runUnderlying3 w⟩) Tryz.runUnderlying5) <| JL.mv (t8 rfl) <| JL.rd (Rd.shrN (n := 8) (t0 rfl) Ev.c (by decide)) ?_
 refine JL.rd (Rd.conv8 (t0 rfl) (fun w => ⟨_, Tryz.runUnderlying3 w⟩) Tryz.runUnderlying5) <| JL.mv (t11 rfl) <| JL.rd (Rd.conv8 (t0 rfl) (fun w => ⟨_, Tryz.runUnderlying3 w⟩) Tryz.runUnderlying5) <| JL.rd (Rd.byIdx Tryz.runUnderlying122 Tryz.sizeOf5 (t9 rfl) Ev.c (Src.i (by repeat constructor)) (by first | (simp; done) | (simp; omega) | omega | (simp [*]; done) | (simp [*]; omega)) (by omega) (by omega)) ?_
 refine JL.ef0 (Ef.bySt Tryz.sizeOf5 (t0 rfl) (t6 rfl) (by repeat constructor) (by first | (simp; done) | (simp; omega) | omega | (simp [*]; done) | (simp [*]; omega)) ?_)
 refine JL.rd (Rd.byIdx Tryz.runUnderlying122 Tryz.sizeOf5 (t9 rfl) Ev.c (Src.i (by repeat constructor)) (by first | (simp; done) | (simp; omega) | omega | (simp [*]; done) | (simp [*]; omega)) (by omega) (by omega)) ?_
 refine JL.ef0 (Ef.bySt Tryz.sizeOf5 (t0 rfl) (t4 rfl) (by repeat constructor) (by first | (simp; done) | (simp; omega) | omega | (simp [*]; done) | (simp [*]; omega)) ?_)
 refine JL.rd (Rd.byIdx Tryz.runUnderlying122 Tryz.sizeOf5 (t9 rfl) Ev.c (Src.i (by repeat constructor)) (by first | (simp; done) | (simp; omega) | omega | (simp [*]; done) | (simp [*]; omega)) (by omega) (by omega)) ?_
 refine JL.ef0 (Ef.bySt Tryz.sizeOf5 (t0 rfl) (t3 rfl) (by repeat constructor) (by first | (simp; done) | (simp; omega) | omega | (simp [*]; done) | (simp [*]; omega)) ?_)
 refine JL.n4 <| JL.mv (t13 rfl) <| JL.rd (Rd.slFrom (i := 3) Tryz.runUnderlying122 Tryz.sizeOf5 (t0 rfl) Ev.c (by omega)) ?_
 rw [show subA (some ⟨b1, 0, none⟩) 1 3 512 = some ⟨b1, 3, none⟩ from rfl]
 refine JL.mv (t17 rfl) <| JL.ef (Ef.copyB (t := 122) rfl Tryz.runUnderlying122 Tryz.sizeOf5 (t1 rfl) (t0 rfl) (by repeat constructor) (SIn.row (by repeat constructor)) hbl hz0 (by omega) (by simp) (by omega) ?_)
 refine JL.ns <| J.live (K := [(6, _), (2, _)]) ⟨(lk17 rfl), (lk28 rfl), trivial⟩ ?_
 intro ρ2
 have hset := set3 (UInt8.ofNat 2) (UInt8.ofNat (l.length / 2 ^ 8)) (UInt8.ofNat l.length) (innerB l) (by rw [hbl]; exact hs)
 rw [hbl] at hset
 have hpre : (ndPre (.inner l)) = UInt8.ofNat 2 :: UInt8.ofNat (l.length / 2 ^ 8) :: UInt8.ofNat l.length :: innerB l ++ List.replicate (505 - sizeI l) 0 := rfl
 rw [← hpre] at hset
 rw [show ((((List.replicate 512 (0 : UInt8)).set (0 : Int).toNat (UInt8.ofNat 2)).set (1 : Int).toNat (UInt8.ofNat (l.length / 2 ^ 8))).set (2 : Int).toNat (UInt8.ofNat l.length)) = ((((List.replicate 512 (0 : UInt8)).set 0 (UInt8.ofNat 2)).set 1 (UInt8.ofNat (l.length / 2 ^ 8))).set 2 (UInt8.ofNat l.length)) from rfl, hset]
 refine J.region <| JL.mv (t0 rfl) <| JL.rd (Rd.slToN (j := 508) Tryz.runUnderlying122 Tryz.sizeOf5 (t0 rfl) Ev.c (by omega)) ?_
 refine JL.ef (Ef.call (.cons (t0 rfl) .nil) (crc_any (some ⟨b1, 0, none⟩) 508 512 (ndPre (.inner l)) hpl (by decide) (bytesA (some ⟨b1, 0, none⟩) 512 ((ndPre (.inner l)) ++ List.replicate 4 0)) (fun t => SIn.pre (SIn.bytes t))) (by repeat constructor) ?_)
 rintro - -
 simp only [cA, nA]
 refine JL.as (t0 rfl) <| JL.n5 <| JL.mv Ev.c <| JL.nb <| J.loop (X := Nat) (fun (x : Nat) => [(36, .int .i64 (x : Int))]) (K := [(7, _), (6, _), (2, _)]) (fun x => [bytesA (some ⟨b1, 0, none⟩) 512 ((ndPre (.inner l)) ++ (le4 (crcB (ndPre (.inner l)))).take x ++ List.replicate (4 - x) 0), rowR a 2 (l.map kdc)]) (fun x => x ≤ 4) (fun x => 4 - x) (0) ?_ ⟨lk0.trans (by first | with_reducible rfl | (congr 1; omega) | (simp; done) | (simp [*]; done)), trivial⟩ ⟨(lk1 rfl), (lk5 rfl), (lk6 rfl), trivial⟩ (fun _ s => by rw [List.take_zero, List.append_nil]; exact Stars.sel (by repeat constructor) s) ?_
 exact Nat.zero_le _
 intro x ρ hp
 simp only [cA, nA]
 refine J.sr <| JL.rd (Rd.lss (t0 rfl) Ev.c) <| JL.ns <| J.condD (t0 rfl) ?_ ?_
 intro hc3
 refine J.skip <| At.next <| J.seq <| J.block <| J.sr <| JL.mv (t1 rfl) <| JL.as (t0 rfl) <| JL.n2 <| J.region <| JL.mv (t5 rfl) <| JL.mv (t1 rfl) <| JL.rd (Rd.add Ev.c (t0 rfl) (w64 (by omega) (by omega))) ?_
 refine JL.mv (t7 rfl) <| JL.mv (t4 rfl) <| JL.rd (Rd.mul Ev.c (t0 rfl) (w64 (by omega) (by omega))) ?_
 refine JL.rd (Rd.shrN (a := (crcB (ndPre (.inner l))).toNat) (n := 8 * x) (t2 rfl) (t0 rfl) (by show 8 * x ≤ 32; omega)) ?_
 refine JL.rd (Rd.conv8 (t0 rfl) (fun w => ⟨_, Tryz.runUnderlying148 w⟩) Tryz.runUnderlying5) <| JL.rd (Rd.byIdx Tryz.runUnderlying122 Tryz.sizeOf5 (t7 rfl) (t5 rfl) (Src.i (by repeat constructor)) (by first | (simp; done) | (simp; omega) | omega | (simp [*]; done) | (simp [*]; omega)) (by omega) (by omega)) ?_
 refine JL.ef0 (Ef.bySt Tryz.sizeOf5 (t0 rfl) (t1 rfl) (by repeat constructor) (by first | (simp; done) | (simp; omega) | omega | (simp [*]; done) | (simp [*]; omega)) ?_)
 refine JL.nil <| At.blkN <| At.next <| J.region <| JL.rd (Rd.add (t12 rfl) Ev.c (w64 (by omega) (by omega))) ?_
 refine JL.mv (t0 rfl) <| JL.nil ?_
 rw [show ((508 : Int) + (x : Int)).toNat = 508 + x by omega, le4_step hpl (by omega)]
 refine At.again (x + 1) ?_ ?_ ⟨lk0.trans (by first | with_reducible rfl | (congr 1; omega) | (simp; done) | (simp [*]; done)), trivial⟩ ⟨(lk15 rfl), (lk16 rfl), (lk17 rfl), trivial⟩ (fun _ => Stars.sel (by repeat constructor))
 omega
 omega
 intro hc3
 obtain rfl : x = 4 := by omega
 rw [List.take_of_length_le (by simp), Nat.sub_self, List.replicate_zero, List.append_nil]
 exact J.exit <| At.nextX <| At.loopX <| At.blkX <| At.next <| J.sr <| JL.mv (t3 rfl) <| JL.as (t0 rfl) <| JL.nr <| At.r (b1) (trivial) (ResV.one rfl (t0 rfl)) rfl
end Go.Proofs.YtbhladkbnleeoaaGreat

namespace Go.Proofs.YtbhladkbnleeoaaGreat

section
variable {P : Program} {C : Cx} {Q : Exit → Act → World → Prop}

def pendF (lv : List Lv) (n s f : Nat) : List Nat := (List.range n).filter fun i => i != f && !(lvAt lv i).eff && Nat.ble (lvAt lv i).lo s && Nat.ble s (lvAt lv i).hi
/-- The stages, when the free operation has been done. -/
def DRunF (P : Program) (C : Cx) (l : List Oper) (lv : List Lv) (Q : Exit → Act → World → Prop) (f : Nat) : List Nat → Nat → Env → List Assn → Prop
  | [], s, ρ, hs => DCar P C l hs ρ ((carAt lv l.length s).filter (· != f)) ∧ DNew P C l hs ((newAt lv l.length s).filter (· != f)) ρ fun ρ' => At C Q .normal ρ' hs
  | e :: es, s, ρ, hs => DCar P C l hs ρ ((carAt lv l.length s).filter (· != f)) ∧ DNew P C l hs ((newAt lv l.length s).filter (· != f)) ρ fun ρ' =>
      ∃ o, nthOp l e = some o ∧ EfAt P C l hs ρ' o fun v hs' => DRunF P C l lv Q f es (s + 1) (putd o.dst v ρ') hs'
def GNext (P : Program) (C : Cx) (l : List Oper) (lv : List Lv) (Q : Exit → Act → World → Prop) (f : Nat) : List Nat → Nat → Env → List Assn → Prop
  | [], _, ρ, hs => At C Q .normal ρ hs
  | e :: es, s, ρ, hs => ∃ o, nthOp l e = some o ∧ EfAt P C l hs ρ o fun v hs' => DRunF P C l lv Q f es (s + 1) (putd o.dst v ρ) hs'
theorem GNext.snd {l : List Oper} {lv : List Lv} {es : List Nat} {f s e : Nat} {ρ : Env} {hs : List Assn} (h : GNext P C l lv Q f (e :: es) s ρ hs) : ∃ o, nthOp l e = some o ∧ EfAt P C l hs ρ o fun v hs' => DRunF P C l lv Q f es (s + 1) (putd o.dst v ρ) hs' := h
structure GSt (P : Program) (C : Cx) (Q : Exit → Act → World → Prop) (l : List Oper) (lv : List Lv) (es : List Nat) (f : Nat) (L : Nat → Bool) (s : Nat) (ρv : Env) (hs : List Assn) : Prop where
  closed : ∀ i o, l[i]? = some o → L i = true → ∀ p ∈ preds o, L p = true
  mem : ∀ i o, l[i]? = some o → L i = true → (lvAt lv i).lo ≤ s
  effs : ∀ i o, l[i]? = some o → (lvAt lv i).eff = true → (L i = true ↔ (lvAt lv i).lo < s)
  bound : s ≤ es.length
  rds : ∀ i o, i ≠ f → l[i]? = some o → L i = false → (lvAt lv i).eff = false → (lvAt lv i).lo ≤ s → ∃ d, o.dst = some d ∧ RdAt P C l hs ρv o (ρv d)
  notf : L f = true
  next : GNext P C l lv Q f (es.drop s) s ρv hs
/-- What is asked when the free operation has been done. -/
def FAfter (P : Program) (C : Cx) (l : List Oper) (lv : List Lv) (Q : Exit → Act → World → Prop) (f : Nat) (es : List Nat) (s : Nat) (ρ : Env) (hs : List Assn) : Prop :=
  DCar P C l hs ρ (pendF lv l.length s f) ∧ GNext P C l lv Q f es s ρ hs
def FDo (P : Program) (C : Cx) (l : List Oper) (lv : List Lv) (Q : Exit → Act → World → Prop) (f : Nat) (es : List Nat) (s : Nat) (ρ : Env) (hs : List Assn) : Prop :=
  ∃ o, nthOp l f = some o ∧ EfAt P C l hs ρ o fun v hs' => FAfter P C l lv Q f es s (putd o.dst v ρ) hs'
/-- The free operation has not been done yet. -/
def FRun (P : Program) (C : Cx) (l : List Oper) (lv : List Lv) (Q : Exit → Act → World → Prop) (f : Nat) : List Nat → Nat → Env → List Assn → Prop
  | [], s, ρ, hs => DCar P C l hs ρ ((carAt lv l.length s).filter (· != f)) ∧ DNew P C l hs ((newAt lv l.length s).filter (· != f)) ρ fun ρ' => FDo P C l lv Q f [] s ρ' hs
  | e :: es, s, ρ, hs => DCar P C l hs ρ ((carAt lv l.length s).filter (· != f)) ∧ DNew P C l hs ((newAt lv l.length s).filter (· != f)) ρ fun ρ' => FDo P C l lv Q f (e :: es) s ρ' hs ∧
      ∃ o, nthOp l e = some o ∧ (f ∈ preds o ∨ EfAt P C l hs ρ' o fun v hs' => FRun P C l lv Q f es (s + 1) (putd o.dst v ρ') hs')
def FNext (P : Program) (C : Cx) (l : List Oper) (lv : List Lv) (Q : Exit → Act → World → Prop) (f : Nat) : List Nat → Nat → Env → List Assn → Prop
  | [], s, ρ, hs => FDo P C l lv Q f [] s ρ hs
  | e :: es, s, ρ, hs => FDo P C l lv Q f (e :: es) s ρ hs ∧ ∃ o, nthOp l e = some o ∧ (f ∈ preds o ∨ EfAt P C l hs ρ o fun v hs' => FRun P C l lv Q f es (s + 1) (putd o.dst v ρ) hs')
variable {l : List Oper} {lv : List Lv} {es : List Nat}
theorem FNext.fst {f s : Nat} {ρ : Env} {hs : List Assn} (h : FNext P C l lv Q f es s ρ hs) : FDo P C l lv Q f es s ρ hs := by
  cases es with
  | nil => exact h
  | cons e es => exact h.1
theorem FNext.snd {f s e : Nat} {ρ : Env} {hs : List Assn} (h : FNext P C l lv Q f (e :: es) s ρ hs) : ∃ o, nthOp l e = some o ∧ (f ∈ preds o ∨ EfAt P C l hs ρ o fun v hs' => FRun P C l lv Q f es (s + 1) (putd o.dst v ρ) hs') := h.2
structure FSt (P : Program) (C : Cx) (Q : Exit → Act → World → Prop) (l : List Oper) (lv : List Lv) (es : List Nat) (f : Nat) (L : Nat → Bool) (s : Nat) (ρv : Env) (hs : List Assn) : Prop where
  closed : ∀ i o, l[i]? = some o → L i = true → ∀ p ∈ preds o, L p = true
  mem : ∀ i o, l[i]? = some o → L i = true → (lvAt lv i).lo ≤ s
  effs : ∀ i o, l[i]? = some o → (lvAt lv i).eff = true → (L i = true ↔ (lvAt lv i).lo < s)
  bound : s ≤ es.length
  rds : ∀ i o, i ≠ f → l[i]? = some o → L i = false → (lvAt lv i).eff = false → (lvAt lv i).lo ≤ s → ∃ d, o.dst = some d ∧ RdAt P C l hs ρv o (ρv d)
  notf : L f = false
  next : FNext P C l lv Q f (es.drop s) s ρv hs

theorem fst_of_run {f : Nat} (ok : ∀ i o, l[i]? = some o → OkOp l lv es i o) {L : Nat → Bool} {s : Nat} {ρ : Env} {hs : List Assn}
    (closed : ∀ i o, l[i]? = some o → L i = true → ∀ p ∈ preds o, L p = true) (mem : ∀ i o, l[i]? = some o → L i = true → (lvAt lv i).lo < s ∨ (s = 0 ∧ False) ∨ ((lvAt lv i).lo ≤ s ∧ (lvAt lv i).eff = true))
    (effs : ∀ i o, l[i]? = some o → (lvAt lv i).eff = true → (L i = true ↔ (lvAt lv i).lo < s)) (bound : s ≤ es.length)
    (hf : L f = false) (h : FRun P C l lv Q f (es.drop s) s ρ hs) :
    ∃ ρv, FSt P C Q l lv es f L s ρv hs ∧ ∀ t, (∀ i o, l[i]? = some o → L i = false → (lvAt lv i).eff = false → o.dst ≠ some t) → ρv t = ρ t := by
  have hcar : DCar P C l hs ρ ((carAt lv l.length s).filter (· != f)) := by
    cases he : es.drop s with
    | nil => rw [he] at h; exact h.1
    | cons e es' => rw [he] at h; exact h.1
  have hnew : DNew P C l hs ((newAt lv l.length s).filter (· != f)) ρ fun ρ' => FNext P C l lv Q f (es.drop s) s ρ' hs := by
    cases he : es.drop s with
    | nil => rw [he] at h; exact h.2
    | cons e es' => rw [he] at h; exact h.2
  have hpw : List.Pairwise (· < ·) ((newAt lv l.length s).filter (· != f)) := List.Pairwise.filter _ (List.Pairwise.filter _ List.pairwise_lt_range)
  have hmemN : ∀ i, i ∈ (newAt lv l.length s).filter (· != f) ↔ i < l.length ∧ i ≠ f ∧ (lvAt lv i).eff = false ∧ (lvAt lv i).lo = s := by
    intro i
    simp only [newAt, List.mem_filter, List.mem_range, bne_iff_ne, ne_eq, Bool.and_eq_true, Bool.not_eq_true']
    constructor
    · rintro ⟨⟨a, b⟩, c⟩
      exact ⟨a, c, by simpa using b⟩
    · rintro ⟨a, c, b⟩
      exact ⟨⟨a, by simpa using b⟩, c⟩
  obtain ⟨ρv, hK, heq, hall⟩ := dnew_out ok _ ρ hpw (fun i hi => ((hmemN i).1 hi).2.2.1) hnew
  have hnotL : ∀ i o, l[i]? = some o → (lvAt lv i).eff = false → (lvAt lv i).lo = s → L i = false := fun i o ho he hlo => by
    cases hL : L i with
    | false => rfl
    | true =>
      rcases mem i o ho hL with u | ⟨_, u⟩ | ⟨_, u⟩
      · omega
      · exact u.elim
      · rw [he] at u; cases u
  refine ⟨ρv, ⟨closed, fun i o ho hL => ?_, effs, bound, fun i o hif ho hL he hlo => ?_, hf, hK⟩, fun t ht => heq t fun i hi o ho => ?_⟩
  · rcases mem i o ho hL with u | ⟨_, u⟩ | ⟨u, _⟩
    · omega
    · exact u.elim
    · exact u
  · have hil : i < l.length := (List.getElem?_eq_some_iff.1 ho).1
    by_cases hq : (lvAt lv i).lo = s
    · obtain ⟨o', d, a, b, c⟩ := hall i ((hmemN i).2 ⟨hil, hif, he, hq⟩)
      rw [ho] at a; cases a
      exact ⟨d, b, c⟩
    · have hhi := hi_bound ok closed effs bound _ i o rfl ho hL
      have hmc : i ∈ (carAt lv l.length s).filter (· != f) := by
        refine List.mem_filter.2 ⟨?_, by simpa using hif⟩
        simp only [carAt, List.mem_filter, List.mem_range]
        refine ⟨hil, ?_⟩
        rw [he]
        simp [Nat.blt]
        omega
      obtain ⟨o', d, a, b, c⟩ := dcar_out hcar i hmc
      rw [ho] at a; cases a
      have k := ok i o ho
      have hlook : ∀ t ∈ looks l o, ρ t = ρv t := fun t ht => (heq t fun j hj o' ho' hd' => by
        obtain ⟨_, _, hje, hjlo⟩ := (hmemN j).1 hj
        rcases k.slot t ht j o' ho' hd' with ⟨u, _⟩ | ⟨_, u, _⟩
        · have := k.lo j u
          simp only [Lv.out, hje] at this
          simp at this
          omega
        · rw [hje] at u; cases u).symm
      have hdv : ρv d = ρ d := heq d fun j hj o' ho' hd' => by
        have hji : i ≠ j := fun e => by
          subst e
          exact hq ((hmemN i).1 hj).2.2.2
        exact k.uniq d b j o' ho' hji hd'
      exact ⟨d, b, by rw [hdv]; exact rdAt_congr k hlook c⟩
  · obtain ⟨_, _, he, hlo⟩ := (hmemN i).1 hi
    exact ht i o ho (hnotL i o ho he hlo) he

theorem gst_of_run {f : Nat} (ok : ∀ i o, l[i]? = some o → OkOp l lv es i o) {L : Nat → Bool} {s : Nat} {ρ : Env} {hs : List Assn}
    (closed : ∀ i o, l[i]? = some o → L i = true → ∀ p ∈ preds o, L p = true) (mem : ∀ i o, i ≠ f → l[i]? = some o → L i = true → (lvAt lv i).lo < s ∨ (s = 0 ∧ False) ∨ ((lvAt lv i).lo ≤ s ∧ (lvAt lv i).eff = true))
    (effs : ∀ i o, l[i]? = some o → (lvAt lv i).eff = true → (L i = true ↔ (lvAt lv i).lo < s)) (bound : s ≤ es.length)
    (hf : L f = true) (hff : (lvAt lv f).lo = 0) (h : DRunF P C l lv Q f (es.drop s) s ρ hs) :
    ∃ ρv, GSt P C Q l lv es f L s ρv hs ∧ ∀ t, (∀ i o, l[i]? = some o → L i = false → (lvAt lv i).eff = false → o.dst ≠ some t) → ρv t = ρ t := by
  have hcar : DCar P C l hs ρ ((carAt lv l.length s).filter (· != f)) := by
    cases he : es.drop s with
    | nil => rw [he] at h; exact h.1
    | cons e es' => rw [he] at h; exact h.1
  have hnew : DNew P C l hs ((newAt lv l.length s).filter (· != f)) ρ fun ρ' => GNext P C l lv Q f (es.drop s) s ρ' hs := by
    cases he : es.drop s with
    | nil => rw [he] at h; exact h.2
    | cons e es' => rw [he] at h; exact h.2
  have hpw : List.Pairwise (· < ·) ((newAt lv l.length s).filter (· != f)) := List.Pairwise.filter _ (List.Pairwise.filter _ List.pairwise_lt_range)
  have hmemN : ∀ i, i ∈ (newAt lv l.length s).filter (· != f) ↔ i < l.length ∧ i ≠ f ∧ (lvAt lv i).eff = false ∧ (lvAt lv i).lo = s := by
    intro i
    simp only [newAt, List.mem_filter, List.mem_range, bne_iff_ne, ne_eq, Bool.and_eq_true, Bool.not_eq_true']
    constructor
    · rintro ⟨⟨a, b⟩, c⟩
      exact ⟨a, c, by simpa using b⟩
    · rintro ⟨a, c, b⟩
      exact ⟨⟨a, by simpa using b⟩, c⟩
  obtain ⟨ρv, hK, heq, hall⟩ := dnew_out ok _ ρ hpw (fun i hi => ((hmemN i).1 hi).2.2.1) hnew
  have hnotL : ∀ i o, i ≠ f → l[i]? = some o → (lvAt lv i).eff = false → (lvAt lv i).lo = s → L i = false := fun i o hif ho he hlo => by
    cases hL : L i with
    | false => rfl
    | true =>
      rcases mem i o hif ho hL with u | ⟨_, u⟩ | ⟨_, u⟩
      · omega
      · exact u.elim
      · rw [he] at u; cases u
  refine ⟨ρv, ⟨closed, fun i o ho hL => ?_, effs, bound, fun i o hif ho hL he hlo => ?_, hf, hK⟩, fun t ht => heq t fun i hi o ho => ?_⟩
  · by_cases hif : i = f
    · subst hif; omega
    · rcases mem i o hif ho hL with u | ⟨_, u⟩ | ⟨u, _⟩
      · omega
      · exact u.elim
      · exact u
  · have hil : i < l.length := (List.getElem?_eq_some_iff.1 ho).1
    by_cases hq : (lvAt lv i).lo = s
    · obtain ⟨o', d, a, b, c⟩ := hall i ((hmemN i).2 ⟨hil, hif, he, hq⟩)
      rw [ho] at a; cases a
      exact ⟨d, b, c⟩
    · have hhi := hi_bound ok closed effs bound _ i o rfl ho hL
      have hmc : i ∈ (carAt lv l.length s).filter (· != f) := by
        refine List.mem_filter.2 ⟨?_, by simpa using hif⟩
        simp only [carAt, List.mem_filter, List.mem_range]
        refine ⟨hil, ?_⟩
        rw [he]
        simp [Nat.blt]
        omega
      obtain ⟨o', d, a, b, c⟩ := dcar_out hcar i hmc
      rw [ho] at a; cases a
      have k := ok i o ho
      have hlook : ∀ t ∈ looks l o, ρ t = ρv t := fun t ht => (heq t fun j hj o' ho' hd' => by
        obtain ⟨_, _, hje, hjlo⟩ := (hmemN j).1 hj
        rcases k.slot t ht j o' ho' hd' with ⟨u, _⟩ | ⟨_, u, _⟩
        · have := k.lo j u
          simp only [Lv.out, hje] at this
          simp at this
          omega
        · rw [hje] at u; cases u).symm
      have hdv : ρv d = ρ d := heq d fun j hj o' ho' hd' => by
        have hji : i ≠ j := fun e => by
          subst e
          exact hq ((hmemN i).1 hj).2.2.2
        exact k.uniq d b j o' ho' hji hd'
      exact ⟨d, b, by rw [hdv]; exact rdAt_congr k hlook c⟩
  · obtain ⟨_, hif, he, hlo⟩ := (hmemN i).1 hi
    exact ht i o ho (hnotL i o hif ho he hlo) he

theorem draw_after {f : Nat} (hfe : (lvAt lv f).eff = false) (hf0 : (lvAt lv f).lo = 0) (ok : ∀ i o, l[i]? = some o → OkOp l lv es i o) (hes : ∀ k e, es[k]? = some e → (lvAt lv e).eff = true ∧ (lvAt lv e).lo = k) (hel : ∀ e ∈ es, e < l.length) :
    ∀ (fuel : Nat) (listed : Array Bool) (ρr ρv : Env) (s : Nat) (hs : List Assn) (w : World), listed.size = l.length → ((List.range l.length).filter fun i => !listed.getD i false).length ≤ fuel →
      GSt P C Q l lv es f (fun i => listed.getD i false) s ρv hs → Like l lv (fun i => listed.getD i false) ρr ρv → C.inv hs w →
      wpAnyIn (wideR C.r) 0 P .any l.toArray Q fuel listed (C.act ρr) w := by
  intro fuel
  have hgd : ∀ (listed : Array Bool) (i : Nat), i < listed.size → listed.getD i true = listed.getD i false := fun listed i h => by simp [h]
  have hready : ∀ (listed : Array Bool) (i : Nat), listed.size = l.length → (i ∈ Region.ready .any l.toArray listed ↔ ∃ o, l[i]? = some o ∧ listed.getD i false = false ∧ ∀ p ∈ preds o, listed.getD p false = true) := by
    intro listed i hsz
    rw [mem_ready]
    constructor
    · rintro ⟨h1, o, ho, h2⟩
      have ho' : l[i]? = some o := by simpa using ho
      refine ⟨o, ho', ?_, fun p hp => ?_⟩
      · rw [← hgd listed i (by rw [hsz]; exact (List.getElem?_eq_some_iff.1 ho').1)]; exact h1
      · obtain ⟨e, he, rfl⟩ := List.mem_map.1 hp
        obtain ⟨he1, he2⟩ := List.mem_filter.1 he
        exact h2 e (by simpa using he1) he2
    · rintro ⟨o, ho, h1, h2⟩
      refine ⟨?_, o, by simpa using ho, fun e he hb => h2 _ (List.mem_map.2 ⟨e, List.mem_filter.2 ⟨by simpa using he, hb⟩, rfl⟩)⟩
      rw [hgd listed i (by rw [hsz]; exact (List.getElem?_eq_some_iff.1 ho).1)]; exact h1
  have hdone : ∀ (listed : Array Bool), listed.size = l.length → Region.ready .any l.toArray listed = [] → ∀ i, i < l.length → listed.getD i false = true := by
    intro listed hsz hr i
    induction i using Nat.strongRecOn with
    | _ i ih =>
      intro hi
      cases hL : listed.getD i false with
      | true => rfl
      | false =>
        have : i ∈ Region.ready .any l.toArray listed := (hready listed i hsz).2 ⟨l[i], by simp [hi], hL, fun p hp => by
          have := (ok i l[i] (by simp [hi])).back p hp
          exact ih p this (by omega)⟩
        rw [hr] at this; cases this
  have hfin : ∀ (listed : Array Bool) (ρr ρv : Env) (s : Nat) (hs : List Assn) (w : World), listed.size = l.length → (∀ i, i < l.length → listed.getD i false = true) →
      GSt P C Q l lv es f (fun i => listed.getD i false) s ρv hs → Like l lv (fun i => listed.getD i false) ρr ρv → C.inv hs w → Q .normal (C.act ρr) w := by
    intro listed ρr ρv s hs w hsz hall st like hi
    have hρ : ρr = ρv := funext fun t => like t fun i o ho hL => by
      have := hall i (List.getElem?_eq_some_iff.1 ho).1
      cases this.symm.trans hL
    have hs' : es.drop s = [] := by
      cases hd : es.drop s with
      | nil => rfl
      | cons e es' =>
        have hk : es[s]? = some e := by
          have := congrArg List.head? hd
          rw [List.head?_drop] at this
          simpa using this
        obtain ⟨u, v⟩ := hes s e hk
        have hlt := hel e (List.mem_of_getElem? hk)
        have h1 := (st.effs e l[e] (by simp [hlt]) u).1 (hall e hlt)
        omega
    have := st.next
    rw [hs'] at this
    rw [hρ]; exact this w hi
  induction fuel with
  | zero =>
    intro listed ρr ρv s hs w hsz hcnt st like hi
    have hall : ∀ i, i < l.length → listed.getD i false = true := fun i hil => by
      cases hL : listed.getD i false with
      | true => rfl
      | false =>
        have : i ∈ (List.range l.length).filter fun i => !listed.getD i false := List.mem_filter.2 ⟨List.mem_range.2 hil, by simpa using hL⟩
        rw [List.length_eq_zero_iff.1 (Nat.le_zero.1 hcnt)] at this; cases this
    refine ⟨?_, hfin listed ρr ρv s hs w hsz hall st like hi⟩
    cases hr : Region.ready .any l.toArray listed with
    | nil => rfl
    | cons i r =>
      have : i ∈ Region.ready .any l.toArray listed := by rw [hr]; exact List.mem_cons_self ..
      obtain ⟨o, ho, h1, _⟩ := (hready listed i hsz).1 this
      rw [hall i (List.getElem?_eq_some_iff.1 ho).1] at h1; cases h1
  | succ fuel ih =>
    intro listed ρr ρv s hs w hsz hcnt st like hi
    refine ⟨fun hr => hfin listed ρr ρv s hs w hsz (hdone listed hsz hr) st like hi, fun i hir => ?_⟩
    obtain ⟨o, ho, hL, hpred⟩ := (hready listed i hsz).1 hir
    have hil : i < l.length := (List.getElem?_eq_some_iff.1 ho).1
    have k := ok i o ho
    have hsz' : (listed.setIfInBounds i true).size = l.length := by simpa using hsz
    have hset : ∀ j, (listed.setIfInBounds i true).getD j false = if j = i then true else listed.getD j false := fun j => by
      by_cases hj : j = i
      · subst hj; simp [hsz, hil]
      · rw [if_neg hj, getD_set_ne false (fun e => hj e.symm)]
    have hcnt' : ((List.range l.length).filter fun j => !(listed.setIfInBounds i true).getD j false).length ≤ fuel := by
      have hsub : ((List.range l.length).filter fun j => !(listed.setIfInBounds i true).getD j false).length < ((List.range l.length).filter fun j => !listed.getD j false).length := by
        rw [← List.countP_eq_length_filter, ← List.countP_eq_length_filter]
        have hgen : ∀ (r : List Nat), i ∈ r → r.countP (fun j => !(listed.setIfInBounds i true).getD j false) < r.countP (fun j => !listed.getD j false) := by
          intro r
          have hle : ∀ (r : List Nat), r.countP (fun j => !(listed.setIfInBounds i true).getD j false) ≤ r.countP (fun j => !listed.getD j false) := fun r =>
            List.countP_mono_left fun j _ hj => by
              rw [hset] at hj
              by_cases e : j = i
              · simp [e] at hj
              · simpa [e] using hj
          induction r with
          | nil => intro h; cases h
          | cons a r ih2 =>
            intro hm
            rw [List.countP_cons, List.countP_cons]
            by_cases e : a = i
            · subst e
              have h1 : (!(listed.setIfInBounds a true).getD a false) = false := by rw [hset]; simp
              have h2 : (!listed.getD a false) = true := by rw [hL]; rfl
              rw [h1, h2]
              have := hle r
              simp only [Bool.false_eq_true, if_false, if_true]
              omega
            · have h1 := ih2 (by rcases List.mem_cons.1 hm with h | h; exact absurd h.symm e; exact h)
              have h2 : (!(listed.setIfInBounds i true).getD a false) = (!listed.getD a false) := by rw [hset, if_neg e]
              rw [h2]; omega
        exact hgen _ (List.mem_range.2 hil)
      omega
    have hlookr : ∀ t ∈ looks l o, ρr t = ρv t := fun t ht => like t fun j oj hoj hLj hej hdj => by
      rcases k.slot t ht j oj hoj hdj with ⟨u, _⟩ | ⟨_, u, _⟩
      · have := hpred j u
        cases this.symm.trans hLj
      · rw [hej] at u; cases u
    have hlo : (lvAt lv i).lo ≤ s := by
      rcases k.lo' with u | ⟨p, hp, u⟩
      · omega
      · have hLp := hpred p hp
        have hpl : p < l.length := by have := k.back p hp; omega
        have hop : l[p]? = some l[p] := by simp [hpl]
        have h1 := st.mem p l[p] hop hLp
        unfold Lv.out at u
        split at u
        · rename_i he
          have := (st.effs p l[p] hop he).1 hLp
          omega
        · omega
    have hclosed' : ∀ j oj, l[j]? = some oj → (listed.setIfInBounds i true).getD j false = true → ∀ p ∈ preds oj, (listed.setIfInBounds i true).getD p false = true := by
      intro j oj hoj hj p hp
      rw [hset]
      by_cases e : p = i
      · simp [e]
      · rw [if_neg e]
        rw [hset] at hj
        by_cases e' : j = i
        · subst e'; rw [ho] at hoj; cases hoj; exact hpred p hp
        · rw [if_neg e'] at hj
          exact st.closed j oj hoj hj p hp
    have hif : i ≠ f := fun e => by subst e; have h2 := st.notf; exact absurd (hL.symm.trans h2) (by decide)
    have hfn : (listed.setIfInBounds i true).getD f false = true := by rw [hset, if_neg (fun e => hif e.symm)]; exact st.notf
    have hwop : wpOpIn (wideR C.r) 0 P l.toArray Q i (wpAnyIn (wideR C.r) 0 P .any l.toArray Q fuel (listed.setIfInBounds i true)) (C.act ρr) w := by
      unfold wpOpIn
      have hoa : l.toArray[i]? = some o := by simpa using ho
      rw [hoa]
      simp only []
      by_cases heff : (lvAt lv i).eff = true
      · -- the next effect
        have hsi : (lvAt lv i).lo = s := by
          have := (st.effs i o ho heff)
          simp only [hL] at this
          have h2 : ¬ (lvAt lv i).lo < s := fun h => by have := this.2 h; cases this
          omega
        have hes_i := k.eff heff
        rw [hsi] at hes_i
        have hnext := st.next
        have hdr : es.drop s = i :: es.drop (s + 1) := by
          obtain ⟨hlt, he⟩ := List.getElem?_eq_some_iff.1 hes_i
          rw [List.drop_eq_getElem_cons hlt, he]
        rw [hdr] at hnext
        obtain ⟨o', ho', hef⟩ := GNext.snd hnext
        rw [nthOp_eq, ho] at ho'; cases ho'
        have hef' := efAt_congr k (fun t ht => (hlookr t ht).symm) hef
        have hgo : ∀ v hs', DRunF P C l lv Q f (es.drop (s + 1)) (s + 1) (putd o.dst v ρv) hs' → ∀ w', C.inv hs' w' →
            wpAnyIn (wideR C.r) 0 P .any l.toArray Q fuel (listed.setIfInBounds i true) (C.act (putd o.dst v ρr)) w' := by
          intro v hs' hrun w' hi'
          have hmem' : ∀ j oj, l[j]? = some oj → (listed.setIfInBounds i true).getD j false = true → (lvAt lv j).lo < s + 1 ∨ (s + 1 = 0 ∧ False) ∨ ((lvAt lv j).lo ≤ s + 1 ∧ (lvAt lv j).eff = true) := by
            intro j oj hoj hj
            rw [hset] at hj
            by_cases e : j = i
            · subst e; left; omega
            · rw [if_neg e] at hj
              have := st.mem j oj hoj hj
              left; omega
          have heffs' : ∀ j oj, l[j]? = some oj → (lvAt lv j).eff = true → ((listed.setIfInBounds i true).getD j false = true ↔ (lvAt lv j).lo < s + 1) := by
            intro j oj hoj he
            rw [hset]
            by_cases e : j = i
            · subst e; simp; omega
            · rw [if_neg e]
              have h1 : listed.getD j false = true ↔ (lvAt lv j).lo < s := st.effs j oj hoj he
              rw [h1]
              constructor
              · omega
              · intro h
                have h2 := (ok j oj hoj).eff he
                by_cases hq : (lvAt lv j).lo = s
                · rw [hq, hes_i] at h2
                  exact absurd (Option.some.inj h2).symm e
                · omega
          have hb' : s + 1 ≤ es.length := (List.getElem?_eq_some_iff.1 hes_i).1
          obtain ⟨ρv2, st2, heq2⟩ := gst_of_run (L := fun j => (listed.setIfInBounds i true).getD j false) ok hclosed' (fun j oj _ => hmem' j oj) heffs' hb' hfn hf0 hrun
          refine ih (listed.setIfInBounds i true) (putd o.dst v ρr) ρv2 (s + 1) hs' w' hsz' hcnt' st2 ?_ hi'
          intro t ht
          rw [heq2 t ht]
          cases hd : o.dst with
          | none =>
            refine like t fun j oj hoj hLj hej => ht j oj hoj ?_ hej
            show (listed.setIfInBounds i true).getD j false = false
            rw [hset, if_neg (fun e => by subst e; rw [heff] at hej; cases hej)]; exact hLj
          | some d =>
            show (if t = d then v else ρr t) = if t = d then v else ρv t
            by_cases e : t = d
            · rw [if_pos e, if_pos e]
            · rw [if_neg e, if_neg e]
              refine like t fun j oj hoj hLj hej => ht j oj hoj ?_ hej
              show (listed.setIfInBounds i true).getD j false = false
              rw [hset, if_neg (fun e => by subst e; rw [heff] at hej; cases hej)]; exact hLj
        unfold EfAt at hef'
        cases hg : o.guard with
        | none =>
          rw [hg] at hef'
          rw [if_pos (wanted_none hg _)]
          exact uponIn_of hef' (fun v hs' h w' hi' => hgo v hs' h w' hi') w hi
        | some z =>
          obtain ⟨j, want⟩ := z
          rw [hg] at hef'
          obtain ⟨t, b, h1, h2, h3, h4⟩ := hef'
          have hy : yielded l.toArray (C.act ρr).tmps j = b := yieldedO (by rw [nthOp_eq] at h1; simpa using h1) h2
          by_cases hb : b = some want
          · rw [if_pos (by simp [Region.wanted, hg, hy, hb])]
            exact uponIn_of (h3 hb) (fun v hs' h w' hi' => hgo v hs' h w' hi') w hi
          · rw [if_neg (by simp [Region.wanted, hg, hy, hb])]
            refine ⟨fun _ _ => trivial, ?_⟩
            rw [act_putd]
            exact hgo undef hs (h4 hb) w hi
      · -- a reading operation
        have heff' : (lvAt lv i).eff = false := by simpa using heff
        obtain ⟨d, hd, hrd⟩ := st.rds i o hif ho hL heff' hlo
        have hrd' := rdAt_congr k (fun t ht => (hlookr t ht).symm) hrd
        have hgo : ∀ w', C.inv hs w' → wpAnyIn (wideR C.r) 0 P .any l.toArray Q fuel (listed.setIfInBounds i true) (C.act (putd o.dst (ρv d) ρr)) w' := by
          intro w' hi'
          refine ih (listed.setIfInBounds i true) (putd o.dst (ρv d) ρr) ρv s hs w' hsz' hcnt' ?_ ?_ hi'
          · refine ⟨hclosed', fun j oj hoj hj => ?_, fun j oj hoj he => ?_, st.bound, fun j oj hjf hoj hj => ?_, hfn, st.next⟩
            · replace hj : (listed.setIfInBounds i true).getD j false = true := hj
              rw [hset] at hj
              by_cases e : j = i
              · subst e; exact hlo
              · rw [if_neg e] at hj; exact st.mem j oj hoj hj
            · show (listed.setIfInBounds i true).getD j false = true ↔ _
              rw [hset, if_neg (fun e => by subst e; rw [he] at heff'; cases heff')]
              exact st.effs j oj hoj he
            · replace hj : (listed.setIfInBounds i true).getD j false = false := hj
              rw [hset] at hj
              by_cases e : j = i
              · rw [if_pos e] at hj; cases hj
              · rw [if_neg e] at hj; exact st.rds j oj hjf hoj hj
          · intro t ht
            rw [hd]
            show (if t = d then ρv d else ρr t) = ρv t
            by_cases e : t = d
            · rw [if_pos e, e]
            · rw [if_neg e]
              refine like t fun j oj hoj hLj hej => ?_
              by_cases e' : j = i
              · subst e'
                rw [ho] at hoj; cases hoj
                rw [hd]
                exact fun h => e (Option.some.inj h).symm
              · refine ht j oj hoj ?_ hej
                show (listed.setIfInBounds i true).getD j false = false
                rw [hset, if_neg e']; exact hLj
        unfold RdAt at hrd'
        cases hg : o.guard with
        | none =>
          rw [hg] at hrd'
          rw [if_pos (wanted_none hg _)]
          exact uponIn_of (K := fun v hs' => v = ρv d ∧ hs' = hs) (hrd'.ef ⟨rfl, rfl⟩) (fun v hs' h w' hi' => by obtain ⟨rfl, rfl⟩ := h; exact hgo w' hi') w hi
        | some z =>
          obtain ⟨j, want⟩ := z
          rw [hg] at hrd'
          obtain ⟨t, b, h1, h2, h3, h4⟩ := hrd'
          have hy : yielded l.toArray (C.act ρr).tmps j = b := yieldedO (by rw [nthOp_eq] at h1; simpa using h1) h2
          by_cases hb : b = some want
          · rw [if_pos (by simp [Region.wanted, hg, hy, hb])]
            exact uponIn_of (K := fun v hs' => v = ρv d ∧ hs' = hs) ((h3 hb).ef ⟨rfl, rfl⟩) (fun v hs' h w' hi' => by obtain ⟨rfl, rfl⟩ := h; exact hgo w' hi') w hi
          · rw [if_neg (by simp [Region.wanted, hg, hy, hb])]
            refine ⟨fun _ _ => trivial, ?_⟩
            rw [act_putd, ← h4 hb]
            exact hgo w hi
    exact hwop

theorem draw_float {f : Nat} (hfl : f < l.length) (hfp : ∀ o, l[f]? = some o → preds o = []) (hfe : (lvAt lv f).eff = false) (hf0 : (lvAt lv f).lo = 0) (ok : ∀ i o, l[i]? = some o → OkOp l lv es i o) (hes : ∀ k e, es[k]? = some e → (lvAt lv e).eff = true ∧ (lvAt lv e).lo = k) (hel : ∀ e ∈ es, e < l.length) :
    ∀ (fuel : Nat) (listed : Array Bool) (ρr ρv : Env) (s : Nat) (hs : List Assn) (w : World), listed.size = l.length → ((List.range l.length).filter fun i => !listed.getD i false).length ≤ fuel →
      FSt P C Q l lv es f (fun i => listed.getD i false) s ρv hs → Like l lv (fun i => listed.getD i false) ρr ρv → C.inv hs w →
      wpAnyIn (wideR C.r) 0 P .any l.toArray Q fuel listed (C.act ρr) w := by
  intro fuel
  have hgd : ∀ (listed : Array Bool) (i : Nat), i < listed.size → listed.getD i true = listed.getD i false := fun listed i h => by simp [h]
  have hready : ∀ (listed : Array Bool) (i : Nat), listed.size = l.length → (i ∈ Region.ready .any l.toArray listed ↔ ∃ o, l[i]? = some o ∧ listed.getD i false = false ∧ ∀ p ∈ preds o, listed.getD p false = true) := by
    intro listed i hsz
    rw [mem_ready]
    constructor
    · rintro ⟨h1, o, ho, h2⟩
      have ho' : l[i]? = some o := by simpa using ho
      refine ⟨o, ho', ?_, fun p hp => ?_⟩
      · rw [← hgd listed i (by rw [hsz]; exact (List.getElem?_eq_some_iff.1 ho').1)]; exact h1
      · obtain ⟨e, he, rfl⟩ := List.mem_map.1 hp
        obtain ⟨he1, he2⟩ := List.mem_filter.1 he
        exact h2 e (by simpa using he1) he2
    · rintro ⟨o, ho, h1, h2⟩
      refine ⟨?_, o, by simpa using ho, fun e he hb => h2 _ (List.mem_map.2 ⟨e, List.mem_filter.2 ⟨by simpa using he, hb⟩, rfl⟩)⟩
      rw [hgd listed i (by rw [hsz]; exact (List.getElem?_eq_some_iff.1 ho).1)]; exact h1
  have hdone : ∀ (listed : Array Bool), listed.size = l.length → Region.ready .any l.toArray listed = [] → ∀ i, i < l.length → listed.getD i false = true := by
    intro listed hsz hr i
    induction i using Nat.strongRecOn with
    | _ i ih =>
      intro hi
      cases hL : listed.getD i false with
      | true => rfl
      | false =>
        have : i ∈ Region.ready .any l.toArray listed := (hready listed i hsz).2 ⟨l[i], by simp [hi], hL, fun p hp => by
          have := (ok i l[i] (by simp [hi])).back p hp
          exact ih p this (by omega)⟩
        rw [hr] at this; cases this
  have hno : ∀ (listed : Array Bool) (ρv : Env) (s : Nat) (hs : List Assn), (∀ i, i < l.length → listed.getD i false = true) → FSt P C Q l lv es f (fun i => listed.getD i false) s ρv hs → False := by
    intro listed ρv s hs hall st
    have h1 := hall f hfl
    have h2 := st.notf
    exact absurd (h1.symm.trans h2) (by decide)
  induction fuel with
  | zero =>
    intro listed ρr ρv s hs w hsz hcnt st like hi
    have hall : ∀ i, i < l.length → listed.getD i false = true := fun i hil => by
      cases hL : listed.getD i false with
      | true => rfl
      | false =>
        have : i ∈ (List.range l.length).filter fun i => !listed.getD i false := List.mem_filter.2 ⟨List.mem_range.2 hil, by simpa using hL⟩
        rw [List.length_eq_zero_iff.1 (Nat.le_zero.1 hcnt)] at this; cases this
    exact (hno listed ρv s hs hall st).elim
  | succ fuel ih =>
    intro listed ρr ρv s hs w hsz hcnt st like hi
    refine ⟨fun hr => (hno listed ρv s hs (hdone listed hsz hr) st).elim, fun i hir => ?_⟩
    obtain ⟨o, ho, hL, hpred⟩ := (hready listed i hsz).1 hir
    have hil : i < l.length := (List.getElem?_eq_some_iff.1 ho).1
    have k := ok i o ho
    have hsz' : (listed.setIfInBounds i true).size = l.length := by simpa using hsz
    have hset : ∀ j, (listed.setIfInBounds i true).getD j false = if j = i then true else listed.getD j false := fun j => by
      by_cases hj : j = i
      · subst hj; simp [hsz, hil]
      · rw [if_neg hj, getD_set_ne false (fun e => hj e.symm)]
    have hcnt' : ((List.range l.length).filter fun j => !(listed.setIfInBounds i true).getD j false).length ≤ fuel := by
      have hsub : ((List.range l.length).filter fun j => !(listed.setIfInBounds i true).getD j false).length < ((List.range l.length).filter fun j => !listed.getD j false).length := by
        rw [← List.countP_eq_length_filter, ← List.countP_eq_length_filter]
        have hgen : ∀ (r : List Nat), i ∈ r → r.countP (fun j => !(listed.setIfInBounds i true).getD j false) < r.countP (fun j => !listed.getD j false) := by
          intro r
          have hle : ∀ (r : List Nat), r.countP (fun j => !(listed.setIfInBounds i true).getD j false) ≤ r.countP (fun j => !listed.getD j false) := fun r =>
            List.countP_mono_left fun j _ hj => by
              rw [hset] at hj
              by_cases e : j = i
              · simp [e] at hj
              · simpa [e] using hj
          induction r with
          | nil => intro h; cases h
          | cons a r ih2 =>
            intro hm
            rw [List.countP_cons, List.countP_cons]
            by_cases e : a = i
            · subst e
              have h1 : (!(listed.setIfInBounds a true).getD a false) = false := by rw [hset]; simp
              have h2 : (!listed.getD a false) = true := by rw [hL]; rfl
              rw [h1, h2]
              have := hle r
              simp only [Bool.false_eq_true, if_false, if_true]
              omega
            · have h1 := ih2 (by rcases List.mem_cons.1 hm with h | h; exact absurd h.symm e; exact h)
              have h2 : (!(listed.setIfInBounds i true).getD a false) = (!listed.getD a false) := by rw [hset, if_neg e]
              rw [h2]; omega
        exact hgen _ (List.mem_range.2 hil)
      omega
    have hlookr : ∀ t ∈ looks l o, ρr t = ρv t := fun t ht => like t fun j oj hoj hLj hej hdj => by
      rcases k.slot t ht j oj hoj hdj with ⟨u, _⟩ | ⟨_, u, _⟩
      · have := hpred j u
        cases this.symm.trans hLj
      · rw [hej] at u; cases u
    have hlo : (lvAt lv i).lo ≤ s := by
      rcases k.lo' with u | ⟨p, hp, u⟩
      · omega
      · have hLp := hpred p hp
        have hpl : p < l.length := by have := k.back p hp; omega
        have hop : l[p]? = some l[p] := by simp [hpl]
        have h1 := st.mem p l[p] hop hLp
        unfold Lv.out at u
        split at u
        · rename_i he
          have := (st.effs p l[p] hop he).1 hLp
          omega
        · omega
    have hclosed' : ∀ j oj, l[j]? = some oj → (listed.setIfInBounds i true).getD j false = true → ∀ p ∈ preds oj, (listed.setIfInBounds i true).getD p false = true := by
      intro j oj hoj hj p hp
      rw [hset]
      by_cases e : p = i
      · simp [e]
      · rw [if_neg e]
        rw [hset] at hj
        by_cases e' : j = i
        · subst e'; rw [ho] at hoj; cases hoj; exact hpred p hp
        · rw [if_neg e'] at hj
          exact st.closed j oj hoj hj p hp
    by_cases hif : i = f
    · subst hif
      have hwop : wpOpIn (wideR C.r) 0 P l.toArray Q i (wpAnyIn (wideR C.r) 0 P .any l.toArray Q fuel (listed.setIfInBounds i true)) (C.act ρr) w := by
        unfold wpOpIn
        have hoa : l.toArray[i]? = some o := by simpa using ho
        rw [hoa]
        simp only []
        have hnext := st.next
        obtain ⟨o', ho', hef⟩ := FNext.fst hnext
        rw [nthOp_eq, ho] at ho'; cases ho'
        have hef' := efAt_congr k (fun t ht => (hlookr t ht).symm) hef
        have hgo : ∀ v hs', FAfter P C l lv Q i (es.drop s) s (putd o.dst v ρv) hs' → ∀ w', C.inv hs' w' →
            wpAnyIn (wideR C.r) 0 P .any l.toArray Q fuel (listed.setIfInBounds i true) (C.act (putd o.dst v ρr)) w' := by
          intro v hs' haf w' hi'
          have heffs' : ∀ j oj, l[j]? = some oj → (lvAt lv j).eff = true → ((listed.setIfInBounds i true).getD j false = true ↔ (lvAt lv j).lo < s) := fun j oj hoj he => by
            rw [hset, if_neg (fun e => by subst e; rw [hfe] at he; cases he)]
            exact st.effs j oj hoj he
          refine draw_after hfe hf0 ok hes hel fuel (listed.setIfInBounds i true) (putd o.dst v ρr) (putd o.dst v ρv) s hs' w' hsz' hcnt' ⟨hclosed', fun j oj hoj hj => ?_, heffs', st.bound, fun j oj _ hoj hj he hjl => ?_, (by show (listed.setIfInBounds i true).getD i false = true; rw [hset, if_pos rfl]), haf.2⟩ (fun t ht => ?_) hi'
          · by_cases e : j = i
            · subst e; omega
            · replace hj : (listed.setIfInBounds i true).getD j false = true := hj
              rw [hset, if_neg e] at hj
              exact st.mem j oj hoj hj
          · replace hj : (listed.setIfInBounds i true).getD j false = false := hj
            have e : j ≠ i := fun e => by rw [hset, if_pos e] at hj; cases hj
            have hhi := hi_bound (L := fun j => (listed.setIfInBounds i true).getD j false) ok hclosed' heffs' st.bound _ j oj rfl hoj hj
            have hjl2 : j < l.length := (List.getElem?_eq_some_iff.1 hoj).1
            have hmc : j ∈ pendF lv l.length s i := by
              simp only [pendF, List.mem_filter, List.mem_range]
              refine ⟨hjl2, ?_⟩
              rw [he]
              simp [e, hjl, hhi]
            obtain ⟨o', d, a, b, c⟩ := dcar_out haf.1 j hmc
            rw [hoj] at a; cases a
            exact ⟨d, b, c⟩
          · cases hd : o.dst with
            | none =>
              refine like t fun j oj hoj hLj hej => ?_
              by_cases e : j = i
              · subst e; rw [ho] at hoj; cases hoj; rw [hd]; intro h; cases h
              · refine ht j oj hoj ?_ hej
                show (listed.setIfInBounds i true).getD j false = false
                rw [hset, if_neg e]; exact hLj
            | some d =>
              show (if t = d then v else ρr t) = if t = d then v else ρv t
              by_cases e : t = d
              · rw [if_pos e, if_pos e]
              · rw [if_neg e, if_neg e]
                refine like t fun j oj hoj hLj hej => ?_
                by_cases e' : j = i
                · subst e'; rw [ho] at hoj; cases hoj; rw [hd]; exact fun h => e (Option.some.inj h).symm
                · refine ht j oj hoj ?_ hej
                  show (listed.setIfInBounds i true).getD j false = false
                  rw [hset, if_neg e']; exact hLj
        unfold EfAt at hef'
        cases hg : o.guard with
        | none =>
          rw [hg] at hef'
          rw [if_pos (wanted_none hg _)]
          exact uponIn_of hef' (fun v hs' h w' hi' => hgo v hs' h w' hi') w hi
        | some z =>
          obtain ⟨j, want⟩ := z
          rw [hg] at hef'
          obtain ⟨t, b, h1, h2, h3, h4⟩ := hef'
          have hy : yielded l.toArray (C.act ρr).tmps j = b := yieldedO (by rw [nthOp_eq] at h1; simpa using h1) h2
          by_cases hb : b = some want
          · rw [if_pos (by simp [Region.wanted, hg, hy, hb])]
            exact uponIn_of (h3 hb) (fun v hs' h w' hi' => hgo v hs' h w' hi') w hi
          · rw [if_neg (by simp [Region.wanted, hg, hy, hb])]
            refine ⟨fun _ _ => trivial, ?_⟩
            rw [act_putd]
            exact hgo undef hs (h4 hb) w hi
      exact hwop
    have hwop : wpOpIn (wideR C.r) 0 P l.toArray Q i (wpAnyIn (wideR C.r) 0 P .any l.toArray Q fuel (listed.setIfInBounds i true)) (C.act ρr) w := by
      unfold wpOpIn
      have hoa : l.toArray[i]? = some o := by simpa using ho
      rw [hoa]
      simp only []
      by_cases heff : (lvAt lv i).eff = true
      · -- the next effect
        have hsi : (lvAt lv i).lo = s := by
          have := (st.effs i o ho heff)
          simp only [hL] at this
          have h2 : ¬ (lvAt lv i).lo < s := fun h => by have := this.2 h; cases this
          omega
        have hes_i := k.eff heff
        rw [hsi] at hes_i
        have hnext := st.next
        have hdr : es.drop s = i :: es.drop (s + 1) := by
          obtain ⟨hlt, he⟩ := List.getElem?_eq_some_iff.1 hes_i
          rw [List.drop_eq_getElem_cons hlt, he]
        rw [hdr] at hnext
        obtain ⟨o', ho', hor⟩ := FNext.snd hnext
        rw [nthOp_eq, ho] at ho'; cases ho'
        have hef := hor.resolve_left (fun h => by have h1 := hpred f h; have h2 := st.notf; exact absurd (h1.symm.trans h2) (by decide))
        have hef' := efAt_congr k (fun t ht => (hlookr t ht).symm) hef
        have hgo : ∀ v hs', FRun P C l lv Q f (es.drop (s + 1)) (s + 1) (putd o.dst v ρv) hs' → ∀ w', C.inv hs' w' →
            wpAnyIn (wideR C.r) 0 P .any l.toArray Q fuel (listed.setIfInBounds i true) (C.act (putd o.dst v ρr)) w' := by
          intro v hs' hrun w' hi'
          have hmem' : ∀ j oj, l[j]? = some oj → (listed.setIfInBounds i true).getD j false = true → (lvAt lv j).lo < s + 1 ∨ (s + 1 = 0 ∧ False) ∨ ((lvAt lv j).lo ≤ s + 1 ∧ (lvAt lv j).eff = true) := by
            intro j oj hoj hj
            rw [hset] at hj
            by_cases e : j = i
            · subst e; left; omega
            · rw [if_neg e] at hj
              have := st.mem j oj hoj hj
              left; omega
          have heffs' : ∀ j oj, l[j]? = some oj → (lvAt lv j).eff = true → ((listed.setIfInBounds i true).getD j false = true ↔ (lvAt lv j).lo < s + 1) := by
            intro j oj hoj he
            rw [hset]
            by_cases e : j = i
            · subst e; simp; omega
            · rw [if_neg e]
              have h1 : listed.getD j false = true ↔ (lvAt lv j).lo < s := st.effs j oj hoj he
              rw [h1]
              constructor
              · omega
              · intro h
                have h2 := (ok j oj hoj).eff he
                by_cases hq : (lvAt lv j).lo = s
                · rw [hq, hes_i] at h2
                  exact absurd (Option.some.inj h2).symm e
                · omega
          have hb' : s + 1 ≤ es.length := (List.getElem?_eq_some_iff.1 hes_i).1
          obtain ⟨ρv2, st2, heq2⟩ := fst_of_run (L := fun j => (listed.setIfInBounds i true).getD j false) ok hclosed' hmem' heffs' hb' (by show (listed.setIfInBounds i true).getD f false = false; rw [hset, if_neg (fun e => hif e.symm)]; exact st.notf) hrun
          refine ih (listed.setIfInBounds i true) (putd o.dst v ρr) ρv2 (s + 1) hs' w' hsz' hcnt' st2 ?_ hi'
          intro t ht
          rw [heq2 t ht]
          cases hd : o.dst with
          | none =>
            refine like t fun j oj hoj hLj hej => ht j oj hoj ?_ hej
            show (listed.setIfInBounds i true).getD j false = false
            rw [hset, if_neg (fun e => by subst e; rw [heff] at hej; cases hej)]; exact hLj
          | some d =>
            show (if t = d then v else ρr t) = if t = d then v else ρv t
            by_cases e : t = d
            · rw [if_pos e, if_pos e]
            · rw [if_neg e, if_neg e]
              refine like t fun j oj hoj hLj hej => ht j oj hoj ?_ hej
              show (listed.setIfInBounds i true).getD j false = false
              rw [hset, if_neg (fun e => by subst e; rw [heff] at hej; cases hej)]; exact hLj
        unfold EfAt at hef'
        cases hg : o.guard with
        | none =>
          rw [hg] at hef'
          rw [if_pos (wanted_none hg _)]
          exact uponIn_of hef' (fun v hs' h w' hi' => hgo v hs' h w' hi') w hi
        | some z =>
          obtain ⟨j, want⟩ := z
          rw [hg] at hef'
          obtain ⟨t, b, h1, h2, h3, h4⟩ := hef'
          have hy : yielded l.toArray (C.act ρr).tmps j = b := yieldedO (by rw [nthOp_eq] at h1; simpa using h1) h2
          by_cases hb : b = some want
          · rw [if_pos (by simp [Region.wanted, hg, hy, hb])]
            exact uponIn_of (h3 hb) (fun v hs' h w' hi' => hgo v hs' h w' hi') w hi
          · rw [if_neg (by simp [Region.wanted, hg, hy, hb])]
            refine ⟨fun _ _ => trivial, ?_⟩
            rw [act_putd]
            exact hgo undef hs (h4 hb) w hi
      · -- a reading operation
        have heff' : (lvAt lv i).eff = false := by simpa using heff
        obtain ⟨d, hd, hrd⟩ := st.rds i o hif ho hL heff' hlo
        have hrd' := rdAt_congr k (fun t ht => (hlookr t ht).symm) hrd
        have hgo : ∀ w', C.inv hs w' → wpAnyIn (wideR C.r) 0 P .any l.toArray Q fuel (listed.setIfInBounds i true) (C.act (putd o.dst (ρv d) ρr)) w' := by
          intro w' hi'
          refine ih (listed.setIfInBounds i true) (putd o.dst (ρv d) ρr) ρv s hs w' hsz' hcnt' ?_ ?_ hi'
          · refine ⟨hclosed', fun j oj hoj hj => ?_, fun j oj hoj he => ?_, st.bound, fun j oj hjf hoj hj => ?_, (by show (listed.setIfInBounds i true).getD f false = false; rw [hset, if_neg (fun e => hif e.symm)]; exact st.notf), st.next⟩
            · replace hj : (listed.setIfInBounds i true).getD j false = true := hj
              rw [hset] at hj
              by_cases e : j = i
              · subst e; exact hlo
              · rw [if_neg e] at hj; exact st.mem j oj hoj hj
            · show (listed.setIfInBounds i true).getD j false = true ↔ _
              rw [hset, if_neg (fun e => by subst e; rw [he] at heff'; cases heff')]
              exact st.effs j oj hoj he
            · replace hj : (listed.setIfInBounds i true).getD j false = false := hj
              rw [hset] at hj
              by_cases e : j = i
              · rw [if_pos e] at hj; cases hj
              · rw [if_neg e] at hj; exact st.rds j oj hjf hoj hj
          · intro t ht
            rw [hd]
            show (if t = d then ρv d else ρr t) = ρv t
            by_cases e : t = d
            · rw [if_pos e, e]
            · rw [if_neg e]
              refine like t fun j oj hoj hLj hej => ?_
              by_cases e' : j = i
              · subst e'
                rw [ho] at hoj; cases hoj
                rw [hd]
                exact fun h => e (Option.some.inj h).symm
              · refine ht j oj hoj ?_ hej
                show (listed.setIfInBounds i true).getD j false = false
                rw [hset, if_neg e']; exact hLj
        unfold RdAt at hrd'
        cases hg : o.guard with
        | none =>
          rw [hg] at hrd'
          rw [if_pos (wanted_none hg _)]
          exact uponIn_of (K := fun v hs' => v = ρv d ∧ hs' = hs) (hrd'.ef ⟨rfl, rfl⟩) (fun v hs' h w' hi' => by obtain ⟨rfl, rfl⟩ := h; exact hgo w' hi') w hi
        | some z =>
          obtain ⟨j, want⟩ := z
          rw [hg] at hrd'
          obtain ⟨t, b, h1, h2, h3, h4⟩ := hrd'
          have hy : yielded l.toArray (C.act ρr).tmps j = b := yieldedO (by rw [nthOp_eq] at h1; simpa using h1) h2
          by_cases hb : b = some want
          · rw [if_pos (by simp [Region.wanted, hg, hy, hb])]
            exact uponIn_of (K := fun v hs' => v = ρv d ∧ hs' = hs) ((h3 hb).ef ⟨rfl, rfl⟩) (fun v hs' h w' hi' => by obtain ⟨rfl, rfl⟩ := h; exact hgo w' hi') w hi
          · rw [if_neg (by simp [Region.wanted, hg, hy, hb])]
            refine ⟨fun _ _ => trivial, ?_⟩
            rw [act_putd, ← h4 hb]
            exact hgo w hi
    exact hwop

/-- THE RULE with a free operation f. -/
theorem J.drawF {id : Nat} {ρ : Env} {hs : List Assn} (f : Nat) (lv : List Lv) (es : List Nat) (hm : P.follows .mixedOrders = true) (hok : okAll l lv es = true) (hff : ((nthOp l f).map fun o => (preds o).isEmpty) = some true) (hfe : (lvAt lv f).eff = false) (hf0 : (lvAt lv f).lo = 0) (h : FRun P C l lv Q f es 0 ρ hs) :
    J P C (.region id l.toArray true) Q ρ hs := by
  unfold okAll at hok
  simp only [Bool.and_eq_true] at hok
  obtain ⟨⟨h1, h2⟩, h3⟩ := hok
  have ok : ∀ i o, l[i]? = some o → OkOp l lv es i o := fun i o ho => okOp_spec ho (by have := okFrom_at h1 ho; rwa [Nat.zero_add] at this)
  have hes : ∀ k e, es[k]? = some e → (lvAt lv e).eff = true ∧ (lvAt lv e).lo = k := fun k e he => by have := okEff_at h2 he; rwa [Nat.zero_add] at this
  have hel : ∀ e ∈ es, e < l.length := fun e he => Nat.lt_of_succ_le (by have := List.all_eq_true.1 h3 e he; simpa [Nat.blt] using this)
  have hfo : ∃ o, l[f]? = some o ∧ preds o = [] := by
    rw [nthOp_eq] at hff
    cases ho : l[f]? with
    | none => rw [ho] at hff; cases hff
    | some o => rw [ho] at hff; exact ⟨o, rfl, by simpa using hff⟩
  obtain ⟨of, hof, hpf⟩ := hfo
  have hfl : f < l.length := (List.getElem?_eq_some_iff.1 hof).1
  intro w hi
  refine wpIn_region_any hm ?_
  have hL : ∀ i, (Array.replicate l.toArray.size false).getD i false = false := fun i => by
    by_cases h : i < l.length <;> simp [h]
  obtain ⟨ρv, st, heq⟩ := fst_of_run (P := P) (C := C) (Q := Q) (f := f) (L := fun i => (Array.replicate l.toArray.size false).getD i false) (s := 0) ok
    (fun i o _ h => by simp only [hL] at h; cases h) (fun i o _ h => by simp only [hL] at h; cases h)
    (fun i o _ _ => by simp only [hL]; simp) (Nat.zero_le _) (hL f) h
  refine draw_float hfl (fun o ho => by rw [hof] at ho; cases ho; exact hpf) hfe hf0 ok hes hel _ _ ρ ρv 0 hs _ (by simp) ?_ st (fun t ht => (heq t ht).symm) hi.drew
  rw [show l.toArray.size = (List.range l.length).length by simp]
  exact List.length_filter_le _ _
theorem FRun.at {f e s : Nat} {es : List Nat} {ρ : Env} {hs : List Assn} (cs ns : List Nat) (hc : (carAt lv l.length s).filter (· != f) = cs) (hn : (newAt lv l.length s).filter (· != f) = ns) (h1 : DCar P C l hs ρ cs)
    (h2 : DNew P C l hs ns ρ fun ρ' => FDo P C l lv Q f (e :: es) s ρ' hs ∧ ∃ o, nthOp l e = some o ∧ (f ∈ preds o ∨ EfAt P C l hs ρ' o fun v hs' => FRun P C l lv Q f es (s + 1) (putd o.dst v ρ') hs')) : FRun P C l lv Q f (e :: es) s ρ hs := by
  subst hc hn
  exact ⟨h1, h2⟩
theorem FDo.ef {f s : Nat} {es : List Nat} {hs : List Assn} {d : Nat} {op : Op} {ty : TypeId} {pos : String} {af : Array Edge} {m : List (Nat × Value)} {ρ : Env}
    (ho : nthOp l f = some ⟨some d, op, ty, pos, af, none⟩) (h : Ef P C hs (ext m ρ) ⟨some d, op, ty, pos, af, none⟩ fun v hs' => FAfter P C l lv Q f es s (ext ((d, v) :: m) ρ) hs') : FDo P C l lv Q f es s (ext m ρ) hs := ⟨_, ho, h⟩
theorem FAfter.mk {f e s : Nat} {es : List Nat} {ρ : Env} {hs : List Assn} (ps : List Nat) (hp : pendF lv l.length s f = ps) (h1 : DCar P C l hs ρ ps) (h2 : ∃ o, nthOp l e = some o ∧ EfAt P C l hs ρ o fun v hs' => DRunF P C l lv Q f es (s + 1) (putd o.dst v ρ) hs') : FAfter P C l lv Q f (e :: es) s ρ hs := by
  subst hp
  exact ⟨h1, h2⟩
theorem FRun.ef {f e s : Nat} {es : List Nat} {hs : List Assn} {d : Nat} {op : Op} {ty : TypeId} {pos : String} {af : Array Edge} {m : List (Nat × Value)} {ρ : Env}
    (ho : nthOp l e = some ⟨some d, op, ty, pos, af, none⟩) (h : Ef P C hs (ext m ρ) ⟨some d, op, ty, pos, af, none⟩ fun v hs' => FRun P C l lv Q f es (s + 1) (ext ((d, v) :: m) ρ) hs') :
    ∃ o, nthOp l e = some o ∧ (f ∈ preds o ∨ EfAt P C l hs (ext m ρ) o fun v hs' => FRun P C l lv Q f es (s + 1) (putd o.dst v (ext m ρ)) hs') := ⟨_, ho, .inr h⟩
theorem FRun.last {f e s : Nat} {es : List Nat} {hs : List Assn} {ρ : Env} {o : Oper} (ho : nthOp l e = some o) (hp : (preds o).contains f = true) :
    ∃ o, nthOp l e = some o ∧ (f ∈ preds o ∨ EfAt P C l hs ρ o fun v hs' => FRun P C l lv Q f es (s + 1) (putd o.dst v ρ) hs') := ⟨_, ho, .inl (by simpa using hp)⟩
theorem DRunF.at {f e s : Nat} {es : List Nat} {ρ : Env} {hs : List Assn} (cs ns : List Nat) (hc : (carAt lv l.length s).filter (· != f) = cs) (hn : (newAt lv l.length s).filter (· != f) = ns) (h1 : DCar P C l hs ρ cs)
    (h2 : DNew P C l hs ns ρ fun ρ' => ∃ o, nthOp l e = some o ∧ EfAt P C l hs ρ' o fun v hs' => DRunF P C l lv Q f es (s + 1) (putd o.dst v ρ') hs') : DRunF P C l lv Q f (e :: es) s ρ hs := by
  subst hc hn
  exact ⟨h1, h2⟩
theorem DRunF.end {f s : Nat} {ρ : Env} {hs : List Assn} (cs ns : List Nat) (hc : (carAt lv l.length s).filter (· != f) = cs) (hn : (newAt lv l.length s).filter (· != f) = ns) (h1 : DCar P C l hs ρ cs) (h2 : DNew P C l hs ns ρ fun ρ' => At C Q .normal ρ' hs) : DRunF P C l lv Q f [] s ρ hs := by
  subst hc hn
  exact ⟨h1, h2⟩
theorem DRunF.ef {f : Nat} {hs : List Assn} {e s : Nat} {es : List Nat} {d : Nat} {op : Op} {ty : TypeId} {pos : String} {af : Array Edge} {m : List (Nat × Value)} {ρ : Env}
    (ho : nthOp l e = some ⟨some d, op, ty, pos, af, none⟩) (h : Ef P C hs (ext m ρ) ⟨some d, op, ty, pos, af, none⟩ fun v hs' => DRunF P C l lv Q f es s (ext ((d, v) :: m) ρ) hs') :
    ∃ o, nthOp l e = some o ∧ EfAt P C l hs (ext m ρ) o fun v hs' => DRunF P C l lv Q f es s (putd o.dst v (ext m ρ)) hs' := ⟨_, ho, h⟩
theorem DRunF.ef0 {f : Nat} {hs : List Assn} {e s : Nat} {es : List Nat} {op : Op} {ty : TypeId} {pos : String} {af : Array Edge} {ρ : Env}
    (ho : nthOp l e = some ⟨none, op, ty, pos, af, none⟩) (h : Ef P C hs ρ ⟨none, op, ty, pos, af, none⟩ fun _ hs' => DRunF P C l lv Q f es s ρ hs') :
    ∃ o, nthOp l e = some o ∧ EfAt P C l hs ρ o fun v hs' => DRunF P C l lv Q f es s (putd o.dst v ρ) hs' := ⟨_, ho, h⟩
end
end Go.Proofs.YtbhladkbnleeoaaGreat

