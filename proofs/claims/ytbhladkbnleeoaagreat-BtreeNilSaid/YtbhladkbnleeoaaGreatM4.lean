/-
  Parts of the proof: K8, K9, K10, K11, K12, K13, K14, K15, K16, H1, H2, K17, H3, H4, H5, H6, H7, H14, F0, F1, F2.
-/
import Derived.Test.YtbhladkbnleeoaaGreatM3
import Derived.Test.YtbhladkbnleeoaaGreatRows
import Derived.WalkKit
import Derived.ProofKit
import Derived.OpenShut
import Derived.Deep.Slices
import Derived.Carry
namespace Go.Proofs.YtbhladkbnleeoaaGreat

/-- Free blocks are taken one by one. -/
inductive Tk (f : Nat) : Bs → List Nat → Bs → Prop
  | nil {s} : Tk f s [] s
  | cons {s b l s'} : f ≤ b → b - f < s.length → s.getD (b - f) 0 = 0 → Tk f (s.set (b - f) 2) l s' → Tk f s (b :: l) s'
theorem Tk.append {f s l s' m s''} (a : Tk f s l s') (b : Tk f s' m s'') : Tk f s (l ++ m) s'' := by
  induction a with
  | nil => exact b
  | cons h1 h2 h3 _ ih => exact .cons h1 h2 h3 (ih b)
theorem Tk.len {f s l s'} (a : Tk f s l s') : s'.length = s.length := by
  induction a with
  | nil => rfl
  | cons _ _ _ _ ih => rw [ih, List.length_set]
theorem getD_set {s : Bs} {k i : Nat} {c : UInt8} (hk : k < s.length) : (s.set k c).getD i 0 = if i = k then c else s.getD i 0 := by
  rw [List.getD_eq_getElem?_getD, List.getElem?_set]
  by_cases h : k = i
  · subst h; simp [hk]
  · rw [if_neg h, if_neg (fun e => h e.symm), List.getD_eq_getElem?_getD]
theorem Tk.get {f s l s'} (a : Tk f s l s') (i : Nat) : s'.getD i 0 = if f + i ∈ l then 2 else s.getD i 0 := by
  induction a with
  | nil => simp
  | @cons s b l s' h1 h2 h3 _ ih =>
    rw [ih, getD_set h2]
    by_cases e : i = b - f
    · have e2 : f + i = b := by omega
      simp [e]
      intro h; exact absurd (by omega : f + (b - f) = b) (by rw [← e] at *; omega)
    · have e2 : f + i ≠ b := by omega
      simp [e, e2]
theorem Tk.free {f s l s'} (a : Tk f s l s') : ∀ b ∈ l, f ≤ b ∧ b - f < s.length ∧ s.getD (b - f) 0 = 0 := by
  induction a with
  | nil => intro b hb; cases hb
  | @cons s b l s' h1 h2 h3 _ ih =>
    intro c hc
    rcases List.mem_cons.1 hc with rfl | hc
    · exact ⟨h1, h2, h3⟩
    · obtain ⟨i1, i2, i3⟩ := ih c hc
      rw [List.length_set] at i2
      rw [getD_set h2] at i3
      split at i3
      · exact absurd i3 (by decide)
      · exact ⟨i1, i2, i3⟩
theorem Tk.nodup {f s l s'} (a : Tk f s l s') : l.Nodup := by
  induction a with
  | nil => exact List.nodup_nil
  | @cons s b l s' h1 h2 h3 t ih =>
    refine List.nodup_cons.2 ⟨fun hb => ?_, ih⟩
    have := (t.free b hb).2.2
    rw [getD_set h2, if_pos rfl] at this
    exact absurd this (by decide)
theorem Tk.fr {f s l s'} (a : Tk f s l s') : frS s' + l.length = frS s := by
  induction a with
  | nil => rfl
  | @cons s b l s' h1 h2 h3 t ih =>
    have := frS_set h2 h3
    rw [List.length_cons]
    omega
theorem Tk.le4 {f s l s'} (a : Tk f s l s') (h : ∀ c ∈ s, c.toNat < 4) : ∀ c ∈ s', c.toNat < 4 := by
  induction a with
  | nil => exact h
  | cons h1 h2 h3 t ih =>
    refine ih fun c hc => ?_
    rcases List.mem_or_eq_of_mem_set hc with hc | hc
    · exact h c hc
    · rw [hc]; decide

/-! ### giving blocks back -/
def gv (c : UInt8) : UInt8 := if c = 1 then 3 else if c = 2 then 0 else c
theorem inr_nat {f : Nat} {s : Bs} {b : Nat} (h1 : f ≤ b) (h2 : b - f < s.length) : stC f s (b : Int) = 0 ∧ stV f s (b : Int) = (s.getD (b - f) 0).toNat := by
  have h := stC_in (f := f) (s := s) (i := (b : Int)) (by omega)
  rw [show ((b : Int) - f).toNat = b - f by omega] at h
  exact h
theorem giveS_get {f : Nat} {s : Bs} {b : Nat} (h1 : f ≤ b) (h2 : b - f < s.length) (i : Nat) : (giveS f s (b : Int)).getD i 0 = if i = b - f then gv (s.getD i 0) else s.getD i 0 := by
  obtain ⟨e1, e2⟩ := inr_nat h1 h2
  unfold giveS
  rw [e1, e2, show ((b : Int) - f).toNat = b - f by omega]
  have k1 : (s.getD (b - f) 0).toNat = 1 ↔ s.getD (b - f) 0 = 1 := ⟨fun h => UInt8.toNat_inj.1 h, fun h => by rw [h]; rfl⟩
  have k2 : (s.getD (b - f) 0).toNat = 2 ↔ s.getD (b - f) 0 = 2 := ⟨fun h => UInt8.toNat_inj.1 h, fun h => by rw [h]; rfl⟩
  simp only [ne_eq, not_true_eq_false, if_false, k1, k2]
  by_cases hi : i = b - f
  · subst hi
    unfold gv
    split
    · rw [getD_set h2]
    · split
      · rw [getD_set h2]
      · simp
  · split
    · rw [getD_set h2, if_neg hi]
    · split
      · rw [getD_set h2, if_neg hi]
      · rfl
theorem giveS_len (f : Nat) (s : Bs) (i : Int) : (giveS f s i).length = s.length := by
  unfold giveS
  split
  · rfl
  · split
    · exact List.length_set
    · split
      · exact List.length_set
      · rfl
theorem giveL_len (f : Nat) : ∀ (l : List Nat) (s : Bs), (giveL f s l).length = s.length := by
  intro l
  induction l with
  | nil => intro s; rfl
  | cons b l ih => intro s; exact (ih _).trans (giveS_len f s b)
theorem giveL_get {f : Nat} : ∀ {l : List Nat} {s : Bs}, l.Nodup → (∀ b ∈ l, f ≤ b ∧ b - f < s.length) → ∀ i, (giveL f s l).getD i 0 = if f + i ∈ l then gv (s.getD i 0) else s.getD i 0 := by
  intro l
  induction l with
  | nil => intro s _ _ i; simp [giveL]
  | cons b l ih =>
    intro s hn hr i
    obtain ⟨n1, n2⟩ := List.nodup_cons.1 hn
    obtain ⟨r1, r2⟩ := hr b (List.mem_cons_self ..)
    have h1 := ih (s := giveS f s (b : Int)) n2 (fun c hc => by rw [giveS_len]; exact hr c (List.mem_cons_of_mem _ hc)) i
    show (giveL f (giveS f s (b : Int)) l).getD i 0 = _
    rw [h1, giveS_get r1 r2]
    by_cases e : i = b - f
    · have e2 : f + i = b := by omega
      rw [e2, if_neg n1, if_pos e, if_pos (List.mem_cons_self ..)]
    · have e2 : ¬ f + i = b := by omega
      simp [e, e2]
theorem GiveOk.mk {f : Nat} : ∀ {l : List Nat} {s : Bs}, l.Nodup → (∀ b ∈ l, f ≤ b ∧ b - f < s.length ∧ (s.getD (b - f) 0 = 1 ∨ s.getD (b - f) 0 = 2)) → GiveOk f s l := by
  intro l
  induction l with
  | nil => intro s _ _; trivial
  | cons b l ih =>
    intro s hn hr
    obtain ⟨n1, n2⟩ := List.nodup_cons.1 hn
    obtain ⟨r1, r2, r3⟩ := hr b (List.mem_cons_self ..)
    obtain ⟨e1, e2⟩ := inr_nat r1 r2
    refine ⟨?_, ih n2 fun c hc => ?_⟩
    · unfold giveC
      rw [e1, e2]
      rcases r3 with r3 | r3 <;> rw [r3] <;> rfl
    · obtain ⟨c1, c2, c3⟩ := hr c (List.mem_cons_of_mem _ hc)
      refine ⟨c1, by rw [giveS_len]; exact c2, ?_⟩
      rw [giveS_get r1 r2, if_neg]
      · exact c3
      · intro e
        have : c = b := by omega
        exact n1 (this ▸ hc)
theorem Tk.give {f s l s'} (a : Tk f s l s') : giveL f s' l = s := by
  apply List.ext_getElem?
  intro i
  have hl : (giveL f s' l).length = s.length := (giveL_len f l s').trans a.len
  by_cases hi : i < s.length
  · have h1 := giveL_get a.nodup (fun b hb => ⟨(a.free b hb).1, by rw [a.len]; exact (a.free b hb).2.1⟩) i
    rw [a.get] at h1
    have h2 : (giveL f s' l).getD i 0 = s.getD i 0 := by
      rw [h1]
      by_cases e : f + i ∈ l
      · have := (a.free _ e).2.2
        rw [show f + i - f = i by omega] at this
        rw [if_pos e, if_pos e, this]; rfl
      · rw [if_neg e, if_neg e]
    rw [List.getD_eq_getElem?_getD, List.getD_eq_getElem?_getD, List.getElem?_eq_getElem (by omega), List.getElem?_eq_getElem hi] at h2
    rw [List.getElem?_eq_getElem (by omega), List.getElem?_eq_getElem hi]
    simpa using h2
  · rw [List.getElem?_eq_none (by omega), List.getElem?_eq_none (by omega)]

/-! ### what happens to the device -/
structure DExt (P : Nat → Prop) (D D' : Dk) : Prop where
  n : D'.n = D.n
  dur : D'.dur = D.dur
  pend : ∃ ws, D'.pend = D.pend ++ ws ∧ ∀ w ∈ ws, P w.1
  lim : D.lim = -1 → D.down = false → D'.lim = -1 ∧ D'.down = false
theorem DExt.refl (P : Nat → Prop) (D : Dk) : DExt P D D := ⟨rfl, rfl, ⟨[], by simp, by simp⟩, fun a b => ⟨a, b⟩⟩
theorem DExt.trans {P Q R : Nat → Prop} {a b c : Dk} (h1 : DExt P a b) (h2 : DExt Q b c) (hp : ∀ x, P x → R x) (hq : ∀ x, Q x → R x) : DExt R a c := by
  obtain ⟨w1, e1, p1⟩ := h1.pend
  obtain ⟨w2, e2, p2⟩ := h2.pend
  refine ⟨h2.n.trans h1.n, h2.dur.trans h1.dur, ⟨w1 ++ w2, by rw [e2, e1, List.append_assoc], fun w hw => ?_⟩, fun a b => ?_⟩
  · rcases List.mem_append.1 hw with hw | hw
    · exact hp _ (p1 w hw)
    · exact hq _ (p2 w hw)
  · obtain ⟨c1, c2⟩ := h1.lim a b
    exact h2.lim c1 c2
theorem DExt.vis {P : Nat → Prop} {D D' : Dk} (h : DExt P D D') {b : Nat} (hb : ¬ P b) : D'.vis b = D.vis b := by
  obtain ⟨ws, e, p⟩ := h.pend
  unfold Dk.vis
  rw [e, h.dur, visL_append, visL_skip]
  intro w hw e2
  exact hb (e2 ▸ p w hw)
theorem DExt.write (D : Dk) (b : Nat) (z : Bs) : DExt (· = b) D (writeD D (b : Int) z) := by
  unfold writeD
  split
  · exact DExt.refl _ _
  · split
    · exact DExt.refl _ _
    · rename_i h1 h2
      have hop : D.lim = -1 → D.down = false → D.operated.lim = -1 ∧ D.operated.down = false := fun a c => by
        unfold Dk.operated
        rw [if_neg (by rw [a]; decide)]
        exact ⟨by show max (D.lim - 1) (-1) = -1; rw [a]; rfl, c⟩
      split
      · exact ⟨operated_n D, operated_dur D, ⟨[], by simp, by simp⟩, hop⟩
      · refine ⟨operated_n D, operated_dur D, ⟨[(b, z)], ?_, by simp⟩, hop⟩
        show D.operated.pend ++ [((b : Int).toNat, z)] = _
        rw [operated_pend]; rfl

/-- A change goes on. -/
structure Run (f : Nat) (st st' : BSt) (l g : List Nat) : Prop where
  tk : st'.tk = st.tk ++ l
  gn : st'.gn = st.gn ++ g
  tak : Tk f st.s l st'.s
  ext : Ext f st st'
  dx : DExt (· ∈ l) st.D st'.D
  cnt : st'.D.ops ≤ st.D.ops + l.length ∧ st'.D.pend.length ≤ st.D.pend.length + l.length
theorem Run.refl (f : Nat) (st : BSt) : Run f st st [] [] := ⟨by simp, by simp, .nil, Ext.refl _ _, DExt.refl _ _, Nat.le_refl _, Nat.le_refl _⟩
theorem Run.gone (f : Nat) (st : BSt) (b : Nat) : Run f st (goneT st b) [] [b] := ⟨by simp [goneT], rfl, .nil, Ext.gone _ _ _, DExt.refl _ _, Nat.le_refl _, Nat.le_refl _⟩
theorem Run.trans {f : Nat} {a b c : BSt} {l1 l2 g1 g2 : List Nat} (h1 : Run f a b l1 g1) (h2 : Run f b c l2 g2) : Run f a c (l1 ++ l2) (g1 ++ g2) :=
  ⟨by rw [h2.tk, h1.tk, List.append_assoc], by rw [h2.gn, h1.gn, List.append_assoc], h1.tak.append h2.tak, h1.ext.trans h2.ext, h1.dx.trans h2.dx (fun _ h => List.mem_append_left _ h) fun _ h => List.mem_append_right _ h,
    by have := h1.cnt; have := h2.cnt; rw [List.length_append]; omega⟩
theorem Run.wr {f k : Nat} {n : Nd} {st : BSt} (hk : k < st.s.length) (h0 : st.s.getD k 0 = 0) : Run f st (wrS f k n st) [f + k] [] := by
  have hn := writeD_n st.D ((f + k : Nat) : Int) (ndEnc n)
  refine ⟨rfl, by simp [wrS], ?_, Ext.wr hk h0, ?_, hn.2.1, hn.2.2⟩
  · refine .cons (by omega) (by omega) (by rw [show f + k - f = k by omega]; exact h0) ?_
    rw [show f + k - f = k by omega]
    exact .nil
  · have := DExt.write st.D (f + k) (ndEnc n)
    exact ⟨this.n, this.dur, (by obtain ⟨ws, e, p⟩ := this.pend; exact ⟨ws, e, fun w hw => List.mem_singleton.2 (p w hw)⟩), this.lim⟩
/-- The power is on, and stays on. -/
def Live (f : Nat) (st : BSt) : Prop := st.D.lim = -1 ∧ st.D.down = false ∧ f + st.s.length ≤ st.D.n
theorem Run.live {f : Nat} {a b : BSt} {l g : List Nat} (h : Run f a b l g) (hl : Live f a) : Live f b :=
  let ⟨h1, h2, h3⟩ := hl
  let ⟨k1, k2⟩ := h.dx.lim h1 h2
  ⟨k1, k2, by rw [h.tak.len, h.dx.n]; exact h3⟩
theorem fr_none {s : Bs} (h : ((inL s [0])[(0 : Nat)]? : Option Nat) = none) : frS s = 0 := by
  unfold frS
  rw [List.countP_eq_zero]
  intro c hc h0
  obtain ⟨k, hk, e⟩ := List.mem_iff_getElem.1 hc
  have hm : k ∈ inL s [0] := by
    refine selL_mem.2 ⟨hk, ?_⟩
    have hg : s.getD k 0 = 0 := by rw [List.getD_eq_getElem?_getD, List.getElem?_eq_getElem hk, e]; simpa using h0
    unfold inP
    rw [hg]
    rfl
  have : inL s [0] = [] := by
    cases hl : inL s [0] with
    | nil => rfl
    | cons a l => rw [hl] at h; cases h
  rw [this] at hm
  cases hm
theorem write_live {f k : Nat} {st : BSt} (hl : Live f st) (hk : k < st.s.length) : writeC st.D ((f + k : Nat) : Int) 512 = 0 := by
  obtain ⟨h1, h2, h3⟩ := hl
  have hr : reachC st.D ((f + k : Nat) : Int) = 0 := by
    unfold reachC
    rw [if_neg (by rw [h2]; decide), if_neg (by omega)]
  unfold writeC operC
  rw [hr, if_neg (by decide), if_neg (by decide), if_neg (by rw [h1]; decide)]
/-- What a part of a change may do, with at most m blocks. -/
def Does (f m : Nat) (st st' : BSt) (c : Int) : Prop := ∃ l g : List Nat, Run f st st' l g ∧ l.length ≤ m ∧ (Live f st → c = 0 ∨ (c = 26 ∧ frS st.s < m))
theorem Does.refl (f : Nat) (st : BSt) (c : Int) (hc : Live f st → c = 0) : Does f 0 st st c := ⟨[], [], Run.refl f st, Nat.le_refl _, fun h => .inl (hc h)⟩
theorem Does.gone (f : Nat) (st : BSt) (b : Nat) (c : Int) (hc : Live f st → c = 0) : Does f 0 st (goneT st b) c := ⟨[], [b], Run.gone f st b, Nat.le_refl _, fun h => .inl (hc h)⟩
theorem Does.mono {f m n : Nat} {st st' : BSt} {c : Int} (h : Does f m st st' c) (hm : m ≤ n) : Does f n st st' c :=
  let ⟨tk, gn, r, l, k⟩ := h
  ⟨tk, gn, r, Nat.le_trans l hm, fun hl => (k hl).imp id fun ⟨a, b⟩ => ⟨a, Nat.lt_of_lt_of_le b hm⟩⟩
theorem Does.trans {f m n : Nat} {a b c : BSt} {k : Int} (h1 : Does f m a b 0) (h2 : Does f n b c k) : Does f (m + n) a c k := by
  obtain ⟨t1, g1, r1, l1, _⟩ := h1
  obtain ⟨t2, g2, r2, l2, k2⟩ := h2
  refine ⟨t1 ++ t2, g1 ++ g2, r1.trans r2, by rw [List.length_append]; omega, fun hl => ?_⟩
  rcases k2 (r1.live hl) with h | ⟨h, h3⟩
  · exact .inl h
  · have := r1.tak.fr
    exact .inr ⟨h, by omega⟩
theorem wrT_does (f : Nat) (n : Nd) (st : BSt) : Does f 1 st (wrT f n st).1 (wrT f n st).2.1 := by
  unfold wrT
  split
  · rename_i h
    exact ⟨[], [], Run.refl f st, Nat.zero_le _, fun _ => .inr ⟨rfl, by rw [fr_none h]; omega⟩⟩
  · rename_i k hk
    obtain ⟨h1, h2⟩ := free_mem hk
    exact ⟨[f + k], [], Run.wr h1 h2, Nat.le_refl _, fun hl => .inl (write_live hl h1)⟩
theorem kidsT_does (f : Nat) {h : Nat} : ∀ (l : List (Tr h)) (st : BSt), Does f l.length st (kidsT f l st).1 (kidsT f l st).2.1 := by
  intro l
  induction l with
  | nil => intro st; exact Does.refl f st 0 fun _ => rfl
  | cons t l ih =>
    intro st
    have h1 := wrT_does f (nd h t) st
    unfold kidsT
    split
    · exact h1.mono (by simp)
    · rename_i h0
      have h0 : (wrT f (nd h t) st).2.1 = 0 := by simpa using h0
      rw [h0] at h1
      have h2 := h1.trans (ih (wrT f (nd h t) st).1)
      rw [Nat.add_comm] at h2
      split
      · exact h2
      · rename_i h3
        have h3 : (kidsT f l (wrT f (nd h t) st).1).2.1 = 0 := by simpa using h3
        rw [h3] at h2
        exact h2
end Go.Proofs.YtbhladkbnleeoaaGreat

namespace Go.Proofs.YtbhladkbnleeoaaGreat

section
variable {α : Type} {size : List α → Nat} {least : Nat}
theorem packF_one : ∀ (f : Nat) {l : List α}, size l ≤ 505 → (packF size least f l).length ≤ 1 := by
  intro f l h
  cases f with
  | zero => exact Nat.zero_le _
  | succ f =>
    by_cases h0 : l = []
    · subst h0; rw [packF_nil]; exact Nat.zero_le _
    · rw [packF_fits h0 h]; exact Nat.le_refl _
theorem packF_two (f : Nat) {l : List α} {j : Nat} (h1 : least ≤ j) (h2 : j + least ≤ l.length) (ha : size (l.take j) ≤ 505) (hb : size (l.drop j) ≤ 505) : (packF size least f l).length ≤ 2 := by
  cases f with
  | zero => exact Nat.zero_le _
  | succ f =>
    by_cases h0 : l = []
    · subst h0; rw [packF_nil]; exact Nat.zero_le _
    · by_cases h : size l ≤ 505
      · rw [packF_fits h0 h]; exact Nat.le_succ _
      · rw [packF_split h0 h, List.length_append]
        have hm := halves_min (cost := cost size l) h1 h2
        have hc : cost size l j ≤ 505 := by unfold cost; omega
        have h3 : max (size (l.take (halves l.length least (cost size l)))) (size (l.drop (halves l.length least (cost size l)))) ≤ 505 := Nat.le_trans hm hc
        have h4 := packF_one (size := size) (least := least) f (l := l.take (halves l.length least (cost size l))) (by omega)
        have h5 := packF_one (size := size) (least := least) f (l := l.drop (halves l.length least (cost size l))) (by omega)
        omega
end

/-! ### leaves -/
theorem sizeL_pos {l : List It} (h : l ≠ []) : 0 < sizeL l := by
  cases l with
  | nil => exact absurd rfl h
  | cons p l => rw [sizeL_cons]; omega
theorem packF_mid (f : Nat) {A B : List It} {N : It} (ha : sizeL A ≤ 505) (hb : sizeL B ≤ 505) (hn : sizeL [N] ≤ 505) : (packF sizeL 1 f (A ++ [N] ++ B)).length ≤ 3 := by
  cases f with
  | zero => exact Nat.zero_le _
  | succ f =>
    have h0 : A ++ [N] ++ B ≠ [] := by simp
    by_cases h : sizeL (A ++ [N] ++ B) ≤ 505
    · have := packF_one (least := 1) (f + 1) h; omega
    · rw [packF_split h0 h, List.length_append]
      have hlen : (A ++ [N] ++ B).length = A.length + 1 + B.length := by simp; omega
      have hS : sizeL (A ++ [N] ++ B) = sizeL A + sizeL [N] + sizeL B := by rw [sizeL_append, sizeL_append]
      have h2 : 2 * 1 ≤ (A ++ [N] ++ B).length := by
        rw [hlen]
        cases A with
        | nil =>
          cases B with
          | nil => exact absurd hn (by simpa using h)
          | cons b B => simp; omega
        | cons a A => simp; omega
      obtain ⟨q1, q2⟩ := halves_le (cost := cost sizeL (A ++ [N] ++ B)) h2
      obtain ⟨i, hi⟩ : ∃ i, i = halves (A ++ [N] ++ B).length 1 (cost sizeL (A ++ [N] ++ B)) := ⟨_, rfl⟩
      have hm : ∀ j, 1 ≤ j → j + 1 ≤ (A ++ [N] ++ B).length → cost sizeL (A ++ [N] ++ B) i ≤ cost sizeL (A ++ [N] ++ B) j := fun j a b => by rw [hi]; exact halves_min a b
      rw [← hi] at q1 q2 ⊢
      rw [hlen] at q2
      by_cases hc : i ≤ A.length
      · have e1 : (A ++ [N] ++ B).take i = A.take i := by rw [List.append_assoc, List.take_append_of_le_length hc]
        have e2 : (A ++ [N] ++ B).drop i = A.drop i ++ [N] ++ B := by rw [List.append_assoc, List.drop_append_of_le_length hc, List.append_assoc]
        have p1 := packF_one (size := sizeL) (least := 1) f (l := A.take i) (Nat.le_trans (sizeL_take A i) ha)
        rw [e1, e2]
        by_cases hd : A.drop i = []
        · rw [hd, List.nil_append]
          have p2 : (packF sizeL 1 f ([N] ++ B)).length ≤ 2 := by
            by_cases hB : B = []
            · subst hB
              have := packF_one (size := sizeL) (least := 1) f (l := [N]) hn
              exact Nat.le_succ_of_le this
            · exact packF_two f (j := 1) (Nat.le_refl _) (by have := List.length_pos_iff.2 hB; simp; omega) hn hb
          omega
        · have hp := sizeL_pos hd
          have hc1 : A.length = A.length := rfl
          have hAl := List.length_pos_iff.2 hd
          rw [List.length_drop] at hAl
          have h3 := hm A.length (by omega) (by rw [hlen]; omega)
          have c1 : cost sizeL (A ++ [N] ++ B) A.length = max (sizeL A) (sizeL [N] + sizeL B) := by
            unfold cost
            rw [List.append_assoc, List.take_left, List.drop_left, sizeL_append]
          have c2 : sizeL (A.drop i ++ [N] ++ B) ≤ cost sizeL (A ++ [N] ++ B) i := by
            unfold cost; rw [e2]; exact Nat.le_max_right _ _
          have c3 : sizeL (A.drop i ++ [N] ++ B) = sizeL (A.drop i) + sizeL [N] + sizeL B := by rw [sizeL_append, sizeL_append]
          have p2 := packF_one (size := sizeL) (least := 1) f (l := A.drop i ++ [N] ++ B) (by rw [c1] at h3; omega)
          omega
      · have hk : i = A.length + 1 + (i - (A.length + 1)) := by omega
        have hl1 : (A ++ [N]).length = A.length + 1 := by simp
        have e1 : (A ++ [N] ++ B).take i = A ++ [N] ++ B.take (i - (A.length + 1)) := by
          conv => lhs; rw [hk, ← hl1, List.take_length_add_append]
          rw [hl1]
        have e2 : (A ++ [N] ++ B).drop i = B.drop (i - (A.length + 1)) := by
          conv => lhs; rw [hk, ← hl1, List.drop_length_add_append]
          rw [hl1]
        obtain ⟨k, hk2⟩ : ∃ k, k = i - (A.length + 1) := ⟨_, rfl⟩
        rw [← hk2] at e1 e2
        have p1 := packF_one (size := sizeL) (least := 1) f (l := B.drop k) (Nat.le_trans (sizeL_drop B k) hb)
        rw [e1, e2]
        by_cases hd : B.take k = []
        · rw [hd, List.append_nil]
          have p2 : (packF sizeL 1 f (A ++ [N])).length ≤ 2 := by
            by_cases hA : A = []
            · subst hA
              have := packF_one (size := sizeL) (least := 1) f (l := [N]) hn
              exact Nat.le_succ_of_le this
            · exact packF_two f (j := A.length) (by have := List.length_pos_iff.2 hA; omega) (by simp) (by rw [List.take_left]; exact ha) (by rw [List.drop_left]; exact hn)
          omega
        · have hp := sizeL_pos hd
          have hBl := List.length_pos_iff.2 hd
          rw [List.length_take] at hBl
          have h3 := hm (A.length + 1) (by omega) (by rw [hlen]; omega)
          have c1 : cost sizeL (A ++ [N] ++ B) (A.length + 1) = max (sizeL A + sizeL [N]) (sizeL B) := by
            unfold cost
            rw [← hl1, List.take_left, List.drop_left, sizeL_append]
          have c2 : sizeL (A ++ [N] ++ B.take k) ≤ cost sizeL (A ++ [N] ++ B) i := by
            unfold cost; rw [e1]; exact Nat.le_max_left _ _
          have c3 : sizeL (A ++ [N] ++ B.take k) = sizeL A + sizeL [N] + sizeL (B.take k) := by rw [sizeL_append, sizeL_append]
          have p2 := packF_one (size := sizeL) (least := 1) f (l := A ++ [N] ++ B.take k) (by rw [c1] at h3; omega)
          omega
theorem packL_few {mk l : List It} {key : Bs} (hs : sizeL l ≤ 505) (hm : ∀ e ∈ mk, itOk e) (hm1 : mk.length ≤ 1) : (packL (edS mk key l)).length ≤ 3 := by
  unfold packL
  have hA := sizeL_take l (findF l key)
  have hB := sizeL_drop l (findF l key + if hasF l key then 1 else 0)
  match mk, hm, hm1 with
  | [], _, _ =>
    refine Nat.le_trans (packF_one _ ?_) (by omega)
    unfold edS
    rw [List.append_nil, sizeL_append]
    have h2 := sizeL_append (l.take (findF l key)) (l.drop (findF l key))
    rw [List.take_append_drop] at h2
    have h3 : sizeL (l.drop (findF l key + if hasF l key then 1 else 0)) ≤ sizeL (l.drop (findF l key)) := by
      rw [← List.drop_drop]; exact sizeL_drop _ _
    omega
  | [N], hm, _ =>
    obtain ⟨n1, n2, n3⟩ := hm N (List.mem_singleton.2 rfl)
    exact packF_mid _ (by omega) (by omega) (by rw [sizeL_cons, sizeL_nil]; omega)

/-! ### inner nodes -/
def sK (l : List Kd) : Nat := (l.flatMap kidB).length
theorem sK_cons (p : Kd) (l : List Kd) : sK (p :: l) = 5 + p.1.length + sK l := sizeK_cons p l
theorem sK_append (l m : List Kd) : sK (l ++ m) = sK l + sK m := by simp [sK]
theorem sK_le {l : List Kd} (h : ∀ p ∈ l, kdOk p) : sK l ≤ 117 * l.length := sizeK_le h
theorem sizeI_sK (l : List Kd) : sizeI l ≤ sK l := by
  cases l with
  | nil => exact Nat.le_refl _
  | cons p l => rw [sizeI_cons, sK_cons]; unfold sK; omega
theorem sizeI_app {l m : List Kd} (h : l ≠ []) : sizeI (l ++ m) = sizeI l + sK m := by
  cases l with
  | nil => exact absurd rfl h
  | cons p l => rw [List.cons_append, sizeI_cons, sizeI_cons]; unfold sK; rw [List.flatMap_append, List.length_append]; omega
theorem cross {g : Nat → Nat} {c : Nat} : ∀ n, g 0 ≤ c → c < g n → ∃ j, j < n ∧ g j ≤ c ∧ c < g (j + 1) := by
  intro n
  induction n with
  | zero => intro a b; omega
  | succ n ih =>
    intro a b
    by_cases h : c < g n
    · obtain ⟨j, h1, h2⟩ := ih a h
      exact ⟨j, by omega, h2⟩
    · exact ⟨n, by omega, by omega, b⟩
theorem packI_two {l : List Kd} (hl : ∀ p ∈ l, kdOk p) (hs : sizeI l ≤ 750) (f : Nat) : (packF sizeI 2 f l).length ≤ 2 := by
  by_cases h : sizeI l ≤ 505
  · exact Nat.le_succ_of_le (packF_one f h)
  · obtain ⟨j, h1, h2, h3⟩ := cross (g := fun j => sizeI (l.take j)) (c := 380) l.length (Nat.zero_le _) (by rw [List.take_length]; omega)
    have hp : ∃ p, l[j]? = some p := ⟨_, List.getElem?_eq_getElem h1⟩
    obtain ⟨p, hp⟩ := hp
    have hpk := (hl p (List.mem_of_getElem? hp)).1
    have hj : 2 ≤ j := by
      by_cases hj : 2 ≤ j
      · exact hj
      · exfalso
        have a1 := sK_le (l := l.take (j + 1)) fun q hq => hl q (List.mem_of_mem_take hq)
        have a2 := sizeI_sK (l.take (j + 1))
        have a3 : (l.take (j + 1)).length ≤ 2 := by rw [List.length_take]; omega
        have h3 : 380 < sizeI (l.take (j + 1)) := h3
        omega
    have hne : l.take j ≠ [] := fun e => by
      have := congrArg List.length e
      rw [List.length_take] at this
      simp only [List.length_nil] at this
      omega
    have e1 : l = l.take j ++ l.drop j := (List.take_append_drop j l).symm
    have e2 : sizeI l = sizeI (l.take j) + sK (l.drop j) := by
      conv => lhs; rw [e1]
      exact sizeI_app hne
    have e3 : sizeI (l.take (j + 1)) = sizeI (l.take j) + (5 + p.1.length) := by
      rw [take_step hp, sizeI_app hne, sK_cons]
      have : sK [] = 0 := rfl
      omega
    have h3 : 380 < sizeI (l.take (j + 1)) := h3
    have h2 : sizeI (l.take j) ≤ 380 := h2
    have b1 := sK_le (l := l.drop j) fun q hq => hl q (List.mem_of_mem_drop hq)
    have b2 := sizeI_sK (l.drop j)
    rw [List.length_drop] at b1
    refine packF_two f hj ?_ (by omega) (by omega)
    by_cases hx : j + 2 ≤ l.length
    · exact hx
    · exfalso
      have : l.length - j ≤ 1 := by omega
      omega
theorem packK_two {h : Nat} {l : List (Kt h)} (hl : ∀ p ∈ l, kdOk (kdp p)) (hs : sK (l.map kdp) ≤ 750) : (packK l).length ≤ 2 := by
  have h1 := congrArg List.length (packK_map l)
  rw [List.length_map, List.length_map] at h1
  rw [h1]
  exact packI_two (fun p hp => by obtain ⟨q, hq, rfl⟩ := List.mem_map.1 hp; exact hl q hq) (Nat.le_trans (sizeI_sK _) hs) _
theorem packK_one {h : Nat} {l : List (Kt h)} (hs : sizeI (l.map kdp) ≤ 505) : (packK l).length ≤ 1 := packF_one _ hs
/-- An inner node as it is read: the first child has no key. -/
theorem nd_sK {h : Nat} {x : Tr (h + 1)} (hn : NdOk (nd (h + 1) x)) : sK ((asK x).map kdp) ≤ 506 := by
  obtain ⟨b, t, e, _, _, _, _, hs⟩ := hn
  have e1 : (asK x).map kdp = ([], b) :: t := e
  have hs : sizeI ((asK x).map kdp) ≤ 505 := hs
  rw [e1, sizeI_cons] at hs
  rw [e1, sK_cons]
  unfold sK
  simp only [List.length_nil]
  omega
theorem sK_set {h : Nat} {k : Bs} (ks : List (Kt h)) (hk : k.length ≤ 112) : sK ((setK0 k ks).map kdp) ≤ sK (ks.map kdp) + 112 := by
  cases ks with
  | nil => exact Nat.zero_le _
  | cons p l =>
    show sK ((k, p.2.1) :: l.map kdp) ≤ sK ((p.1, p.2.1) :: l.map kdp) + 112
    rw [sK_cons, sK_cons]
    simp only
    omega
theorem mid_sK {h : Nat} {x ks : List (Kt h)} {fr to : Nat} (hf : fr < to) (ht : to ≤ x.length) (hk : ∀ p ∈ ks, kdOk (kdp p)) (h3 : ks.length ≤ 3) : sK ((midK x ks fr to).map kdp) ≤ sK (x.map kdp) + 234 := by
  obtain ⟨c, hc⟩ : ∃ c, x[fr]? = some c := ⟨_, List.getElem?_eq_getElem (by omega)⟩
  have e0 : x = x.take fr ++ x.drop fr := (List.take_append_drop fr x).symm
  have e1 : x.drop fr = c :: x.drop (fr + 1) := by obtain ⟨q1, q2⟩ := List.getElem?_eq_some_iff.1 hc; rw [List.drop_eq_getElem_cons q1, q2]
  have e2 : sK (x.map kdp) = sK ((x.take fr).map kdp) + (5 + c.1.length + sK ((x.drop (fr + 1)).map kdp)) := by
    conv => lhs; rw [e0, e1, List.map_append, sK_append, List.map_cons, sK_cons]
    rfl
  have e3 : sK ((x.drop to).map kdp) ≤ sK ((x.drop (fr + 1)).map kdp) := by
    have : x.drop (fr + 1) = (x.drop (fr + 1)).take (to - (fr + 1)) ++ x.drop to := by
      conv => lhs; rw [← List.take_append_drop (to - (fr + 1)) (x.drop (fr + 1)), List.drop_drop]
      rw [show fr + 1 + (to - (fr + 1)) = to by omega]
    rw [this, List.map_append, sK_append]
    omega
  have e4 : sK ((setK0 (keyAt x fr) ks).map kdp) ≤ 5 + c.1.length + 234 := by
    cases ks with
    | nil => exact Nat.zero_le _
    | cons p l =>
      show sK ((keyAt x fr, p.2.1) :: l.map kdp) ≤ _
      rw [sK_cons]
      have h1 := sK_le (l := l.map kdp) fun q hq => by obtain ⟨z, hz, rfl⟩ := List.mem_map.1 hq; exact hk z (List.mem_cons_of_mem _ hz)
      rw [List.length_map] at h1
      have h2 : keyAt x fr = c.1 := by unfold keyAt; rw [hc]; rfl
      simp only [List.length_cons] at h3
      rw [h2]
      simp only
      omega
  unfold midK
  rw [List.map_append, List.map_append, sK_append, sK_append]
  omega
end Go.Proofs.YtbhladkbnleeoaaGreat

namespace Go.Proofs.YtbhladkbnleeoaaGreat

theorem Does.go {f m : Nat} {st : BSt} {b : Nat} {st' : BSt} {c : Int} (h : Does f m (goneT st b) st' c) : Does f m st st' c := by
  have := (Does.gone f st b 0 fun _ => rfl).trans h
  rwa [Nat.zero_add] at this
theorem endT_does {f h : Nat} {x : List (Kt h)} {l : List (Tr h)} {fr to : Nat} {st : BSt} (hf : f ≤ 1073741824) (hl : TsG l) (hs : StOk st) (hx : ∀ p ∈ x, kdOk (kdp p)) (h3 : l.length ≤ 3) (hx2 : sK (x.map kdp) ≤ 506) (hft : fr < to) (hto : to ≤ x.length) :
    Does f 3 st (endT f x l fr to st).1 (endT f x l fr to st).2.1 ∧ (endT f x l fr to st).2.2.length ≤ 3 := by
  have h1 := kidsT_does f l st
  obtain ⟨k1, k2, k3, k4, k5⟩ := kidsT_ok hf l st hl hs
  unfold endT
  split
  · exact ⟨h1.mono h3, Nat.zero_le _⟩
  · rename_i h0
    have h0 : (kidsT f l st).2.1 = 0 := by simpa using h0
    rw [h0] at h1
    refine ⟨h1.mono h3, ?_⟩
    have m1 := mid_sK hft hto k3 (by omega)
    have m2 := (midK_ok (fr := fr) (to := to) hx k3 (by omega)).1
    have := packK_two m2 (by omega)
    exact Nat.le_trans this (by omega)
theorem join2_few {h : Nat} {a b : Tr h} {k : Bs} (ha : NdG (nd h a)) (hb : NdG (nd h b)) (hk : k.length ≤ 112) (hs : ∀ (g : Nat) (e : h = g + 1), sK ((asK (e ▸ a : Tr (g + 1))).map kdp) + sK ((asK (e ▸ b : Tr (g + 1))).map kdp) ≤ 623) : (join2 h a b k).length ≤ 3 := by
  cases h with
  | zero => exact Nat.zero_le _
  | succ h =>
    obtain ⟨a1, a2, _⟩ := nd_kids ha
    obtain ⟨b1, b2, _⟩ := nd_kids hb
    have h1 := hs h rfl
    have h1 : sK ((asK a).map kdp) + sK ((asK b).map kdp) ≤ 623 := h1
    have h2 := sK_set (k := k) (asK b) hk
    have hm : ∀ p ∈ asK a ++ setK0 k (asK b), kdOk (kdp p) := fun p hp => by
      rcases List.mem_append.1 hp with hp | hp
      · exact a1 p hp
      · exact setK0_ok hk b1 p hp
    have := packK_two hm (by rw [List.map_append, sK_append]; omega)
    exact Nat.le_succ_of_le this
theorem small_sK {h : Nat} {a b : Tr h} (hs : small h a = true) (ha : NdG (nd h a)) (hb : NdOk (nd h b)) : ∀ (g : Nat) (e : h = g + 1), sK ((asK (e ▸ a : Tr (g + 1))).map kdp) + sK ((asK (e ▸ b : Tr (g + 1))).map kdp) ≤ 623 := by
  intro g e
  subst e
  have h1 : (asK a).length = 1 := of_decide_eq_true hs
  obtain ⟨a1, _, _⟩ := nd_kids ha
  have h2 := sK_le (l := (asK a).map kdp) fun p hp => by obtain ⟨q, hq, rfl⟩ := List.mem_map.1 hp; exact a1 q hq
  rw [List.length_map, h1] at h2
  have h3 : sK ((asK b).map kdp) ≤ 506 := nd_sK hb
  show sK ((asK a).map kdp) + sK ((asK b).map kdp) ≤ 623
  omega
theorem smallL_one {h : Nat} {l : List (Tr h)} (hs : smallL l = true) : ∃ a, l = [a] ∧ small h a = true := by
  match l, hs with
  | [a], hs => exact ⟨a, rfl, hs⟩
theorem replT_does {f : Nat} {key : Bs} {mk : List It} (hf : f ≤ 1073741824) (hm : ∀ e ∈ mk, itOk e) (hm1 : mk.length ≤ 1) : ∀ (h : Nat) (t : Tr h) (b : Nat) (st : BSt), Hd f st.D st.s h t b → StOk st →
    Does f (3 * h) st (replT f key mk h t b st).1 (replT f key mk h t b st).2.1 ∧ (replT f key mk h t b st).2.2.length ≤ 3 := by
  intro h
  induction h with
  | zero =>
    intro t b st hH hs
    have ho : NdOk (.leaf t) := hH.2.2.1
    unfold replT
    split
    · rename_i hd
      exact ⟨Does.gone f st b 29 fun hl => absurd hd (by rw [hl.2.1]; decide), Nat.zero_le _⟩
    · exact ⟨Does.gone f st b 0 fun _ => rfl, packL_few ho.2.2.2 hm hm1⟩
  | succ h ih =>
    intro t b st hH hs
    have e0 := Ext.gone f st b
    have hno := hH.2.2.1
    obtain ⟨k1, k2, k3⟩ := nd_kids hno.g
    have hx2 := nd_sK hno
    obtain ⟨h2x, _⟩ := inner_facts hno
    have hsub : ∀ p ∈ (asK t), Hd f st.D st.s h p.2.2 p.2.1 := hH.2.2.2.2
    have hg : ∀ p ∈ (asK t), NdG (nd h p.2.2) := fun p hp => (hsub p hp).top.2.2.1.g
    unfold replT
    split
    · rename_i hd
      exact ⟨(Does.gone f st b 29 fun hl => absurd hd (by rw [hl.2.1]; decide)).mono (Nat.zero_le _), Nat.zero_le _⟩
    · split
      · exact ⟨(Does.gone f st b 0 fun _ => rfl).mono (Nat.zero_le _), Nat.zero_le _⟩
      · rename_i c hc
        have hil := (List.getElem?_eq_some_iff.1 hc).1
        obtain ⟨i1, i2⟩ := ih c.2.2 c.2.1 (goneT st b) (hsub c (List.mem_of_getElem? hc)) (e0.ok hs)
        obtain ⟨o1, o2, o3, o4⟩ := replT_ok (key := key) hf hm hm1 h c.2.2 c.2.1 (goneT st b) (hsub c (List.mem_of_getElem? hc)) (e0.ok hs)
        generalize replT f key mk h c.2.2 c.2.1 (goneT st b) = r at i1 i2 o1 o2 o3 o4 ⊢
        have i1 := i1.go
        split
        · exact ⟨i1.mono (by omega), Nat.zero_le _⟩
        · rename_i hr0
          have hr0 : r.2.1 = 0 := by simpa using hr0
          rw [hr0] at i1
          have hok := o1.ok (e0.ok hs)
          have hexp : 3 * (h + 1) = 3 * h + 3 := by omega
          rw [hexp]
          split
          · rename_i hsm
            obtain ⟨a, ha, has⟩ := smallL_one hsm.1
            have hga : NdG (nd h a) := o3 a (by rw [ha]; exact List.mem_singleton.2 rfl)
            obtain ⟨o, ho⟩ : ∃ o, (asK t)[if childF (asK t) key = 0 then 1 else childF (asK t) key - 1]? = some o := ⟨_, List.getElem?_eq_getElem (by split <;> omega)⟩
            have hoH := o1.hd (hsub o (List.mem_of_getElem? ho))
            have hoN := hoH.top.2.2.1
            have e1 := Ext.gone f r.1 o.2.1
            rw [join_eq ho ha]
            split
            · rename_i hd
              refine ⟨(i1.trans (Does.gone f r.1 o.2.1 29 fun hl => absurd hd (by rw [hl.2.1]; decide))).mono (by omega), Nat.zero_le _⟩
            · split
              · rename_i hi0
                obtain ⟨j1, _⟩ := join2_ok hga hoN.g (keyAt_len k1 1)
                have j2 := join2_few hga hoN.g (keyAt_len k1 1) (small_sK has hga hoN)
                obtain ⟨d1, d2⟩ := endT_does (fr := 0) (to := 2) hf j1 (e1.ok hok) k1 j2 hx2 (by omega) h2x
                exact ⟨i1.trans d1.go, d2⟩
              · rename_i hi0
                obtain ⟨j1, _⟩ := join2_ok hoN.g hga (keyAt_len k1 (childF (asK t) key))
                have j2 := join2_few hoN.g hga (keyAt_len k1 (childF (asK t) key)) (fun g e => by rw [Nat.add_comm]; exact small_sK has hga hoN g e)
                obtain ⟨d1, d2⟩ := endT_does (fr := childF (asK t) key - 1) (to := childF (asK t) key + 1) hf j1 (e1.ok hok) k1 j2 hx2 (by omega) (by omega)
                exact ⟨i1.trans d1.go, d2⟩
          · obtain ⟨d1, d2⟩ := endT_does (fr := childF (asK t) key) (to := childF (asK t) key + 1) hf o3 hok k1 i2 hx2 (by omega) (by omega)
            exact ⟨i1.trans d1, d2⟩
/-- A new root: at most four blocks. -/
theorem growT_one {f : Nat} (n h : Nat) (l : List (Tr h)) (st : BSt) (hl : l.length ≤ 1) : Does f 1 st (growT f n h l st).1 (growT f n h l st).2.1 := by
  cases n with
  | zero => exact (Does.refl f st 0 fun _ => rfl).mono (Nat.zero_le _)
  | succ n =>
    have h1 := kidsT_does f l st
    unfold growT
    split
    · exact (Does.refl f st 0 fun _ => rfl).mono (Nat.zero_le _)
    · rename_i hl0
      split
      · exact (Does.refl f st 0 fun _ => rfl).mono (Nat.zero_le _)
      · split
        · exact h1.mono hl
        · rename_i h0
          have h0 : (kidsT f l st).2.1 = 0 := by simpa using h0
          rw [h0] at h1
          split
          · exact h1.mono hl
          · rename_i hk
            exfalso
            apply hk
            match l, hl, hl0, h0 with
            | [t], _, _, h0 =>
              unfold kidsT at h0 ⊢
              split at h0
              · rename_i h2; exact absurd h0 h2
              · rename_i h2
                rw [if_neg h2]
                rfl
theorem growT_does {f : Nat} (hf : f ≤ 1073741824) (n h : Nat) (l : List (Tr h)) (st : BSt) (hT : TsG l) (hs : StOk st) (hl : l.length ≤ 3) : Does f 4 st (growT f n h l st).1 (growT f n h l st).2.1 := by
  cases n with
  | zero => exact (Does.refl f st 0 fun _ => rfl).mono (Nat.zero_le _)
  | succ n =>
    have h1 := kidsT_does f l st
    obtain ⟨k1, k2, k3, k4, k5⟩ := kidsT_ok hf l st hT hs
    unfold growT
    split
    · exact (Does.refl f st 0 fun _ => rfl).mono (Nat.zero_le _)
    · split
      · exact (Does.refl f st 0 fun _ => rfl).mono (Nat.zero_le _)
      · split
        · exact h1.mono (by omega)
        · rename_i h0
          have h0 : (kidsT f l st).2.1 = 0 := by simpa using h0
          rw [h0] at h1
          split
          · exact h1.mono (by omega)
          · have hsz : sizeI ((kidsT f l st).2.2.map kdp) ≤ 505 := by
              have a1 := sK_le (l := (kidsT f l st).2.2.map kdp) fun p hp => by obtain ⟨q, hq, rfl⟩ := List.mem_map.1 hp; exact k3 q hq
              have a2 := sizeI_sK ((kidsT f l st).2.2.map kdp)
              rw [List.length_map] at a1
              omega
            exact (h1.trans (growT_one n (h + 1) (packK (kidsT f l st).2.2) (kidsT f l st).1 (packK_one hsz))).mono (by omega)
def hgtR : Rt → Nat
  | none => 0
  | some r => r.1 + 1
theorem finT_does {f : Nat} (hf : f ≤ 1073741824) {m h : Nat} {st : BSt} {r : BSt × Int × List (Tr h)} (hd : Does f m st r.1 r.2.1) (hT : TsG r.2.2) (hs : StOk r.1) (hl : r.2.2.length ≤ 3) : Does f (m + 4) st (finT f h r).1 (finT f h r).2.1 := by
  unfold finT
  split
  · exact hd.mono (by omega)
  · rename_i h0
    have h0 : r.2.1 = 0 := by simpa using h0
    rw [h0] at hd
    exact hd.trans (growT_does hf _ h r.2.2 r.1 hT hs hl)
theorem applyT_does {f : Nat} {key : Bs} {mk : List It} (hf : f ≤ 1073741824) (hm : ∀ e ∈ mk, itOk e) (hm1 : mk.length ≤ 1) {rt : Rt} {D : Dk} {s : Bs} (hH : RHd f D s rt) (hs : StOk ⟨D, s, [], []⟩) :
    Does f (3 * hgtR rt + 1) ⟨D, s, [], []⟩ (applyT f key mk rt D s).1 (applyT f key mk rt D s).2.1 := by
  match rt, hH with
  | none, _ =>
    obtain ⟨d1, d2⟩ := edS_ok (l := []) (key := key) hm hm1 (by intro e he; cases he)
    obtain ⟨p1, p2⟩ := packL_ok d1
    have h3 : (packL (edS mk key [])).length ≤ 1 := by
      refine Nat.le_trans p2 ?_
      have : edS mk key [] = mk := by simp [edS, findF, hasF]
      rw [this]; exact hm1
    exact (growT_one _ 0 (packL (edS mk key [])) ⟨D, s, [], []⟩ h3).mono (by simp [hgtR])
  | some r, hH =>
    obtain ⟨o1, o2, o3, o4⟩ := replT_ok (key := key) hf hm hm1 r.1 r.2.2 r.2.1 ⟨D, s, [], []⟩ hH.2 hs
    obtain ⟨d1, d2⟩ := replT_does (key := key) hf hm hm1 r.1 r.2.2 r.2.1 ⟨D, s, [], []⟩ hH.2 hs
    have h1 := finT_does hf d1 o3 (o1.ok hs) d2
    exact h1.mono (by simp only [hgtR]; omega)
theorem slt_nil2 (a : Bs) : slt a [] = false := by
  cases h : slt a []
  · rfl
  · have := slt_asymm h
    rw [slt_nil] at this
    cases a with
    | nil => rw [slt_irrefl] at h; exact h.symm
    | cons x l => simp at this
theorem le_lt {a b c : Bs} (h1 : slt b a = false) (h2 : slt b c = true) : slt a c = true := (lt_of_le_lt h1 h2).elim id id
theorem flat_flat {α β : Type} (g : α → List β) : ∀ L : List (List α), L.flatMap (fun t => t.flatMap g) = L.flatten.flatMap g
  | [] => rfl
  | t :: L => by rw [List.flatMap_cons, List.flatten_cons, List.flatMap_append, flat_flat g L]
theorem ent_nrm : ∀ (h : Nat) (t : Tr h), ent h (nrm h t) = ent h t
  | 0, _ => rfl
  | h + 1, t => by
    show (nrmK (asK t)).flatMap (fun p => ent h p.2.2) = (asK t).flatMap fun p => ent h p.2.2
    cases asK t <;> rfl
theorem bks_nrm : ∀ (h : Nat) (t : Tr h), bks h (nrm h t) = bks h t
  | 0, _ => rfl
  | h + 1, t => by
    show (nrmK (asK t)).flatMap (fun p => p.2.1 :: bks h p.2.2) = (asK t).flatMap fun p => p.2.1 :: bks h p.2.2
    cases asK t <;> rfl
theorem nrm_enc (h : Nat) (t : Tr h) : ndEnc (nd h (nrm h t)) = ndEnc (nd h t) := by
  cases h with
  | zero => rfl
  | succ h =>
    have : nd (h + 1) (nrm (h + 1) t) = norm (nd (h + 1) t) := by
      show Nd.inner ((nrmK (asK t)).map kdp) = norm (.inner ((asK t).map kdp))
      cases asK t <;> rfl
    rw [this, ndEnc_norm]
theorem sizeI_nrm {h : Nat} (l : List (Kt h)) : sizeI ((nrmK l).map kdp) = sizeI (l.map kdp) := by
  cases l with
  | nil => rfl
  | cons p l => show sizeI (([], p.2.1) :: l.map kdp) = sizeI ((p.1, p.2.1) :: l.map kdp); rw [sizeI_cons, sizeI_cons]
theorem rk_head {h : Nat} {l : List (Kt h)} (k : Bs) (hl : l.Pairwise Rk) : (setK0 k l).Pairwise Rk := by
  cases l with
  | nil => exact List.Pairwise.nil
  | cons p l =>
    obtain ⟨a, b⟩ := List.pairwise_cons.1 hl
    exact List.pairwise_cons.2 ⟨fun q hq => a q hq, b⟩
theorem Ok.nr : ∀ {h : Nat} {t : Tr h}, Ok h t → Ok h (nrm h t)
  | 0, _, h => h
  | h + 1, t, ⟨h1, h2, h3, h4⟩ => by
    have e : ∀ l : List (Kt h), nrmK l = setK0 [] l := fun l => by cases l <;> rfl
    refine ⟨?_, ?_, fun p hp => ?_, ?_⟩
    · show 2 ≤ (nrmK (asK t)).length
      rw [e, setK0_length]; exact h1
    · show (nrmK (asK t)).Pairwise Rk
      rw [e]; exact rk_head [] h2
    · have hp : p ∈ nrmK (asK t) := hp
      have h3 : ∀ p ∈ asK t, Ok h p.2.2 ∧ kdOk (kdp p) := h3
      cases hk : asK t with
      | nil => rw [hk] at hp; cases hp
      | cons q l =>
        rw [hk] at hp h3
        rcases List.mem_cons.1 hp with rfl | hp
        · exact ⟨(h3 q (List.mem_cons_self ..)).1, Nat.zero_le _, (h3 q (List.mem_cons_self ..)).2.2⟩
        · exact h3 p (List.mem_cons_of_mem _ hp)
    · show sizeI ((nrmK (asK t)).map kdp) ≤ 505
      rw [sizeI_nrm]; exact h4
theorem Ok.nd : ∀ {h : Nat} {t : Tr h}, Ok h t → NdOk (nd h (nrm h t))
  | 0, _, h => h
  | h + 1, t, ⟨h1, h2, h3, h4⟩ => by
    have h1 : 2 ≤ (asK t).length := h1
    have h2 : (asK t).Pairwise Rk := h2
    have h3 : ∀ p ∈ asK t, Ok h p.2.2 ∧ kdOk (kdp p) := h3
    have h4 : sizeI ((asK t).map kdp) ≤ 505 := h4
    show NdOk (.inner ((nrmK (asK t)).map kdp))
    rw [← sizeI_nrm] at h4
    cases hk : asK t with
    | nil => rw [hk] at h1; simp at h1
    | cons p l =>
      rw [hk] at h1 h2 h3 h4
      obtain ⟨a, b⟩ := List.pairwise_cons.1 h2
      obtain ⟨e0, he0⟩ := List.exists_mem_of_ne_nil _ (h3 p (List.mem_cons_self ..)).1.ne
      refine ⟨p.2.1, l.map kdp, rfl, ?_, (h3 p (List.mem_cons_self ..)).2.2, fun q hq => ?_, ?_, h4⟩
      · intro e
        have := congrArg List.length e
        rw [List.length_map] at this
        simp only [List.length_nil, List.length_cons] at h1 this
        omega
      · obtain ⟨z, hz, rfl⟩ := List.mem_map.1 hq
        refine ⟨fun e => ?_, (h3 z (List.mem_cons_of_mem _ hz)).2⟩
        have := (a z hz).1 e0 he0
        have e : z.1 = [] := e
        rw [e, slt_nil2] at this
        cases this
      · refine List.pairwise_map.2 (b.imp_of_mem fun {y z} hy hz hyz => ?_)
        obtain ⟨e1, he1⟩ := List.exists_mem_of_ne_nil _ (h3 y (List.mem_cons_of_mem _ hy)).1.ne
        exact le_lt ((a y hy).2 e1 he1) (hyz.1 e1 he1)

/-! ### nodes that may have a single child -/
def OkS : (h : Nat) → Tr h → Prop
  | 0, l => OkL l
  | h + 1, l => (asK l) ≠ [] ∧ (asK l).Pairwise Rk ∧ (∀ p ∈ (asK l), Ok h p.2.2 ∧ kdOk (kdp p)) ∧ sizeI ((asK l).map kdp) ≤ 505
theorem Ok.s : ∀ {h : Nat} {t : Tr h}, Ok h t → OkS h t
  | 0, _, h => h
  | _ + 1, t, ⟨h1, h2, h3, h4⟩ => ⟨fun e => by have h1 : 2 ≤ (asK t).length := h1; rw [e] at h1; simp at h1, h2, h3, h4⟩
def Sep {h : Nat} (a b : Tr h) : Prop := (∀ e ∈ ent h a, slt e.1 (fk h b) = true) ∧ (∀ e ∈ ent h b, slt e.1 (fk h b) = false)
def entF {h : Nat} (l : List (Tr h)) : List It := l.flatMap (ent h)
def bksF {h : Nat} (l : List (Tr h)) : List Nat := l.flatMap (bks h)
def entK {h : Nat} (l : List (Kt h)) : List It := l.flatMap fun p => ent h p.2.2
def bksK {h : Nat} (l : List (Kt h)) : List Nat := l.flatMap fun p => p.2.1 :: bks h p.2.2
/-- What is below a node lies on the device. -/
def Hc (f : Nat) (D : Dk) (s : Bs) : (h : Nat) → Tr h → Prop
  | 0, _ => True
  | h + 1, x => ∀ p ∈ (asK x), Hd f D s h p.2.2 p.2.1
theorem Hc.ext {f : Nat} {st st' : BSt} (e : Ext f st st') : ∀ {h : Nat} {t : Tr h}, Hc f st.D st.s h t → Hc f st'.D st'.s h t
  | 0, _, _ => trivial
  | _ + 1, _, h => fun p hp => e.hd (h p hp)
structure FOk (h : Nat) (l : List (Tr h)) : Prop where
  all : ∀ t ∈ l, OkS h t
  sep : l.Pairwise Sep
  big : smallL l = false → ∀ t ∈ l, Ok h t
theorem FOk.mk2 {h : Nat} {l : List (Tr h)} (h1 : ∀ t ∈ l, Ok h t) (h2 : l.Pairwise Sep) : FOk h l := ⟨fun t ht => (h1 t ht).s, h2, fun _ => h1⟩

/-! ### leaves and inner nodes are divided -/
theorem packL_str {l : List It} (hl : ∀ p ∈ l, itOk p) (hs : sorted l) : FOk 0 (packL l : List (Tr 0)) ∧ entF (h := 0) (packL l) = l ∧ bksF (h := 0) (packL l) = [] := by
  have hf : (packL l).flatten = l := packF_flat divL l.length l hl (Nat.le_refl _)
  have hs2 : (packL l).flatten.Pairwise (fun a b => slt a.1 b.1 = true) := by rw [hf]; exact hs
  obtain ⟨p1, p2⟩ := List.pairwise_flatten.1 hs2
  have hp : ∀ t ∈ packL l, OkL t := fun t ht => by
    obtain ⟨q1, q2⟩ := packF_parts _ _ t ht
    exact ⟨q1, fun p hp => hl p (packF_mem divL hl (Nat.le_refl _) ht p hp), p1 t ht, q2⟩
  have hfk : ∀ t ∈ packL l, ∃ e r, t = e :: r ∧ fk 0 (t : Tr 0) = e.1 := fun t ht => by
    cases t with
    | nil => exact absurd rfl (hp [] ht).1
    | cons e r => exact ⟨e, r, rfl, rfl⟩
  refine ⟨FOk.mk2 hp (p2.imp_of_mem fun {a b} ha hb hab => ?_), ?_, ?_⟩
  · obtain ⟨e, r, rfl, hk⟩ := hfk b hb
    refine ⟨fun x hx => by rw [hk]; exact hab x hx e (List.mem_cons_self ..), fun x hx => ?_⟩
    rw [hk]
    rcases List.mem_cons.1 hx with rfl | hx
    · exact slt_irrefl _
    · exact slt_asymm ((List.pairwise_cons.1 (p1 _ hb)).1 x hx)
  · show (packL l).flatMap (fun t => t) = l
    exact List.flatMap_id'.trans hf
  · show (packL l).flatMap (fun _ => ([] : List Nat)) = []
    simp
theorem packK_str {h : Nat} {l : List (Kt h)} (hl : ∀ p ∈ l, Ok h p.2.2 ∧ kdOk (kdp p)) (hr : l.Pairwise Rk) :
    FOk (h + 1) (packK l) ∧ entF (packK l) = entK l ∧ bksF (packK l) = bksK l ∧ ∀ t ∈ packK l, ∀ p ∈ asK t, p ∈ l := by
  have hk : ∀ p ∈ l, kdOk (kdp p) := fun p hp => (hl p hp).2
  have hf : (packK l).flatten = l := packF_flat divT l.length l hk (Nat.le_refl _)
  have hr2 : (packK l).flatten.Pairwise Rk := by rw [hf]; exact hr
  obtain ⟨p1, p2⟩ := List.pairwise_flatten.1 hr2
  have hm : ∀ t ∈ packK l, ∀ p ∈ asK t, p ∈ l := fun t ht p hp => packF_mem divT hk (Nat.le_refl _) ht p hp
  have hp : ∀ t ∈ packK l, OkS (h + 1) t := fun t ht => by
    obtain ⟨q1, q2⟩ := packF_parts _ _ t ht
    exact ⟨q1, p1 t ht, fun p hp => hl p (hm t ht p hp), q2⟩
  refine ⟨⟨hp, p2.imp_of_mem fun {a b} ha hb hab => ?_, fun hs t ht => ?_⟩, ?_, ?_, hm⟩
  · obtain ⟨b1, b2, b3, _⟩ := hp b hb
    obtain ⟨a1, _, a3, _⟩ := hp a ha
    cases hbk : asK b with
    | nil => exact absurd hbk b1
    | cons q r =>
      have hq : q ∈ asK b := by rw [hbk]; exact List.mem_cons_self ..
      have hkq : fk (h + 1) b = q.1 := by show ((asK b).head?.map (·.1)).getD [] = q.1; rw [hbk]; rfl
      refine ⟨fun x hx => ?_, fun x hx => ?_⟩
      · obtain ⟨z, hz, hx⟩ := List.mem_flatMap.1 (show x ∈ (asK a).flatMap (fun p => ent h p.2.2) from hx)
        rw [hkq]
        exact (hab z hz q hq).1 x hx
      · rw [hkq]
        obtain ⟨z, hz⟩ := List.exists_mem_of_ne_nil _ a1
        have hzq := hab z hz q hq
        obtain ⟨y, hy, hx⟩ := List.mem_flatMap.1 (show x ∈ (asK b).flatMap (fun p => ent h p.2.2) from hx)
        rw [hbk] at hy
        rcases List.mem_cons.1 hy with rfl | hy
        · exact hzq.2 x hx
        · have hqy := (List.pairwise_cons.1 (hbk ▸ b2)).1 y hy
          obtain ⟨e0, he0⟩ := List.exists_mem_of_ne_nil _ (b3 q hq).1.ne
          have c1 := hqy.1 e0 he0
          have c2 := hqy.2 x hx
          cases c : slt x.1 q.1
          · rfl
          · have c3 := slt_of_le c (hzq.2 e0 he0)
            rw [slt_trans c3 c1] at c2
            cases c2
  · by_cases h2 : 2 ≤ l.length
    · have h3 := packF_least (divT (h := h)) l.length l hk h2 t ht
      obtain ⟨b1, b2, b3, b4⟩ := hp t ht
      exact ⟨h3, b2, b3, b4⟩
    · match l, h2, hk with
      | [], _, _ =>
        have : packK ([] : List (Kt h)) = [] := packF_nil _
        rw [this] at ht; cases ht
      | [p], _, hk =>
        exfalso
        have hz : sizeI ([p].map kdp) ≤ 505 := by
          have := (hk p (List.mem_cons_self ..)).1
          rw [List.map_cons, sizeI_cons]
          simp
        have : packK [p] = [[p]] := packF_fits (by simp) hz
        rw [this] at hs
        have hs : decide (([p] : List (Kt h)).length = 1) = false := hs
        simp at hs
      | _ :: _ :: _, h2, _ => exact absurd (by simp) h2
  · show (packK l).flatMap (fun t => t.flatMap fun p => ent h p.2.2) = l.flatMap fun p => ent h p.2.2
    conv => rhs; rw [← hf]
    exact flat_flat _ _
  · show (packK l).flatMap (fun t => t.flatMap fun p => p.2.1 :: bks h p.2.2) = l.flatMap fun p => p.2.1 :: bks h p.2.2
    conv => rhs; rw [← hf]
    exact flat_flat _ _
theorem join_rk {h : Nat} {k : Bs} {l m : List (Kt h)} (hl : l.Pairwise Rk) (hm : m.Pairwise Rk) (hn : ∀ p ∈ m, ent h p.2.2 ≠ []) (h1 : ∀ e ∈ entK l, slt e.1 k = true) (h2 : ∀ e ∈ entK m, slt e.1 k = false) : (l ++ setK0 k m).Pairwise Rk := by
  refine List.pairwise_append.2 ⟨hl, rk_head k hm, fun p hp q hq => ?_⟩
  cases m with
  | nil => cases hq
  | cons q0 m =>
    have hmem : ∀ e ∈ ent h p.2.2, slt e.1 k = true := fun e he => h1 e (List.mem_flatMap.2 ⟨p, hp, he⟩)
    rcases List.mem_cons.1 hq with rfl | hq
    · exact ⟨hmem, fun e he => h2 e (List.mem_flatMap.2 ⟨q0, List.mem_cons_self .., he⟩)⟩
    · have hq0 := (List.pairwise_cons.1 hm).1 q hq
      obtain ⟨e0, he0⟩ := List.exists_mem_of_ne_nil _ (hn q0 (List.mem_cons_self ..))
      have c0 := h2 e0 (List.mem_flatMap.2 ⟨q0, List.mem_cons_self .., he0⟩)
      exact ⟨fun e he => slt_trans (slt_of_le (hmem e he) c0) (hq0.1 e0 he0), hq0.2⟩
theorem write_zero {D : Dk} {b : Nat} {z : Bs} (h : writeC D (b : Int) 512 = 0) (hz : z.length = 512) : b < D.n ∧ (writeD D (b : Int) z).vis b = z := by
  have hr : reachC D (b : Int) = 0 := by
    by_cases e : reachC D (b : Int) = 0
    · exact e
    · exfalso; unfold writeC at h; rw [if_pos e] at h; exact e h
  have ho : operC D = 0 := by unfold writeC at h; rw [if_neg (by rw [hr]; decide), if_neg (by decide)] at h; exact h
  obtain ⟨_, _, h3⟩ := reach_zero hr
  refine ⟨by omega, ?_⟩
  unfold writeD
  rw [if_neg (by rw [hr]; decide), if_neg (by rw [hz]; decide), if_neg (by rw [ho]; decide)]
  unfold Dk.wrote Dk.vis
  simp only [Int.toNat_natCast]
  rw [visL_append]
  exact if_pos rfl
theorem kidsT_str {f h : Nat} (_ : f ≤ 1073741824) : ∀ (l : List (Tr h)) (st : BSt), (∀ t ∈ l, Ok h t) → (∀ t ∈ l, Hc f st.D st.s h t) → (kidsT f l st).2.1 = 0 →
    ∃ tk, Run f st (kidsT f l st).1 tk [] ∧ (kidsT f l st).2.2.map (fun p => (p.1, p.2.2)) = l.map (fun t => (fk h t, nrm h t)) ∧ (kidsT f l st).2.2.map (fun p => p.2.1) = tk ∧ ∀ p ∈ (kidsT f l st).2.2, Hd f (kidsT f l st).1.D (kidsT f l st).1.s h p.2.2 p.2.1 := by
  intro l
  induction l with
  | nil => intro st _ _ _; exact ⟨[], Run.refl f st, rfl, rfl, (by intro p hp; cases hp)⟩
  | cons t l ih =>
    intro st hl hc h0
    have hok := hl t (List.mem_cons_self ..)
    unfold kidsT at h0 ⊢
    split at h0
    · rename_i h1; exact absurd h0 h1
    · rename_i h1
      rw [if_neg h1]
      split at h0
      · rename_i h2; exact absurd h0 h2
      · rename_i h2
        rw [if_neg h2]
        have h1 : (wrT f (nd h t) st).2.1 = 0 := by simpa using h1
        have h2 : (kidsT f l (wrT f (nd h t) st).1).2.1 = 0 := by simpa using h2
        have hex : ∃ k, ((inL st.s [0])[(0 : Nat)]? : Option Nat) = some k ∧ wrT f (nd h t) st = (wrS f k (nd h t) st, writeC st.D ((f + k : Nat) : Int) 512, f + k) := by
          unfold wrT at h1 ⊢
          split at h1
          · exact absurd h1 (show ¬ ((26 : Int) = 0) by decide)
          · rename_i k hk
            exact ⟨k, hk, rfl⟩
        obtain ⟨k, hk, hw⟩ := hex
        obtain ⟨hk1, hk2⟩ := free_mem hk
        have hr1 := Run.wr (f := f) (n := nd h t) hk1 hk2
        rw [hw] at h1 h2 ⊢
        have hel : (ndEnc (nd h t)).length = 512 := by rw [← nrm_enc]; exact ndEnc_length hok.nd.fits
        obtain ⟨hb, hv⟩ := write_zero h1 hel
        obtain ⟨tk, r2, e1, e2, e3⟩ := ih (wrS f k (nd h t) st) (fun u hu => hl u (List.mem_cons_of_mem _ hu)) (fun u hu => (hc u (List.mem_cons_of_mem _ hu)).ext hr1.ext) h2
        have hHd : Hd f (wrS f k (nd h t) st).D (wrS f k (nd h t) st).s h (nrm h t) (f + k) := by
          have a1 : f + k < (wrS f k (nd h t) st).D.n := by rw [hr1.dx.n]; exact hb
          have a2 : nf f (wrS f k (nd h t) st).s (f + k) := ⟨by omega, by rw [hr1.tak.len]; omega, by rw [hr1.tak.get, show f + (f + k - f) = f + k by omega, if_pos (List.mem_singleton.2 rfl)]; decide⟩
          have a3 : (wrS f k (nd h t) st).D.vis (f + k) = ndEnc (nd h (nrm h t)) := by rw [nrm_enc]; exact hv
          cases h with
          | zero => exact ⟨a1, a2, hok.nd, a3⟩
          | succ h =>
            refine ⟨a1, a2, hok.nd, a3, fun p hp => ?_⟩
            have hcc : ∀ p ∈ (asK t), Hd f st.D st.s h p.2.2 p.2.1 := hc t (List.mem_cons_self ..)
            have hp : p ∈ nrmK (asK t) := hp
            cases hk : asK t with
            | nil => rw [hk] at hp; cases hp
            | cons q r =>
              rw [hk] at hp hcc
              rcases List.mem_cons.1 hp with rfl | hp
              · exact hr1.ext.hd (hcc q (List.mem_cons_self ..))
              · exact hr1.ext.hd (hcc p (List.mem_cons_of_mem _ hp))
        refine ⟨[f + k] ++ tk, by have := hr1.trans r2; exact this, ?_, ?_, fun p hp => ?_⟩
        · rw [List.map_cons, List.map_cons, e1]
        · rw [List.map_cons, e2]; rfl
        · rcases List.mem_cons.1 hp with rfl | hp
          · exact r2.ext.hd hHd
          · exact e3 p hp
/-- The facts on children that were just written. -/
theorem kids_facts {h : Nat} {l : List (Tr h)} {ks : List (Kt h)} {tk : List Nat} (hl : ∀ t ∈ l, Ok h t) (hs : l.Pairwise Sep) (e1 : ks.map (fun p => (p.1, p.2.2)) = l.map (fun t => (fk h t, nrm h t))) (e2 : ks.map (fun p => p.2.1) = tk) :
    ks.Pairwise Rk ∧ (∀ p ∈ ks, Ok h p.2.2) ∧ entK ks = entF l ∧ (bksK ks).Perm (tk ++ bksF l) ∧ ks.length = l.length := by
  have hlen : ks.length = l.length := by have := congrArg List.length e1; simpa using this
  refine ⟨?_, fun p hp => ?_, ?_, ?_, hlen⟩
  · have h1 : (ks.map (fun p => (p.1, p.2.2))).Pairwise (fun (a b : Bs × Tr h) => (∀ e ∈ ent h a.2, slt e.1 b.1 = true) ∧ (∀ e ∈ ent h b.2, slt e.1 b.1 = false)) := by
      rw [e1]
      refine List.pairwise_map.2 (hs.imp fun {a b} hab => ?_)
      show (∀ e ∈ ent h (nrm h a), slt e.1 (fk h b) = true) ∧ (∀ e ∈ ent h (nrm h b), slt e.1 (fk h b) = false)
      rw [ent_nrm, ent_nrm]
      exact hab
    have h2 := List.pairwise_map.1 h1
    exact h2
  · have : (p.1, p.2.2) ∈ ks.map (fun p => (p.1, p.2.2)) := List.mem_map.2 ⟨p, hp, rfl⟩
    rw [e1] at this
    obtain ⟨t, ht, e⟩ := List.mem_map.1 this
    have := (hl t ht).nr
    have e : nrm h t = p.2.2 := congrArg (fun z => z.2) e
    rwa [e] at this
  · have h1 : entK ks = (ks.map (fun p => (p.1, p.2.2))).flatMap (fun z => ent h z.2) := by rw [List.flatMap_map]; rfl
    rw [h1, e1, List.flatMap_map]
    show l.flatMap (fun t => ent h (nrm h t)) = l.flatMap (ent h)
    congr 1
    funext t
    exact ent_nrm h t
  · have h1 : ∀ ks : List (Kt h), (bksK ks).Perm (ks.map (fun p => p.2.1) ++ ks.flatMap fun p => bks h p.2.2) := by
      intro ks
      induction ks with
      | nil => exact List.Perm.refl _
      | cons p ks ih =>
        show (p.2.1 :: (bks h p.2.2 ++ bksK ks)).Perm (p.2.1 :: ((ks.map (fun p => p.2.1)) ++ (bks h p.2.2 ++ ks.flatMap fun p => bks h p.2.2)))
        refine List.Perm.cons _ ?_
        refine (List.Perm.append_left _ ih).trans ?_
        rw [← List.append_assoc, ← List.append_assoc]
        exact List.Perm.append_right _ List.perm_append_comm
    have h2 : (ks.flatMap fun p => bks h p.2.2) = bksF l := by
      have h3 : (ks.flatMap fun p => bks h p.2.2) = (ks.map (fun p => (p.1, p.2.2))).flatMap (fun z => bks h z.2) := by rw [List.flatMap_map]
      rw [h3, e1, List.flatMap_map]
      show l.flatMap (fun t => bks h (nrm h t)) = l.flatMap (bks h)
      congr 1
      funext t
      exact bks_nrm h t
    have := h1 ks
    rwa [h2, e2] at this
theorem entK_append {h : Nat} (a b : List (Kt h)) : entK (a ++ b) = entK a ++ entK b := List.flatMap_append
theorem bksK_append {h : Nat} (a b : List (Kt h)) : bksK (a ++ b) = bksK a ++ bksK b := List.flatMap_append
theorem entK_set {h : Nat} (k : Bs) (l : List (Kt h)) : entK (setK0 k l) = entK l := by cases l <;> rfl
theorem bksK_set {h : Nat} (k : Bs) (l : List (Kt h)) : bksK (setK0 k l) = bksK l := by cases l <;> rfl
theorem set_mem {h : Nat} {k : Bs} {l : List (Kt h)} {p : Kt h} (hp : p ∈ setK0 k l) : ∃ q ∈ l, q.2 = p.2 := by
  cases l with
  | nil => cases hp
  | cons q l =>
    rcases List.mem_cons.1 hp with rfl | hp
    · exact ⟨q, List.mem_cons_self .., rfl⟩
    · exact ⟨p, List.mem_cons_of_mem _ hp, rfl⟩
theorem setK0_ok2 {h : Nat} {k : Bs} {l : List (Kt h)} (hk : k.length ≤ 112) (hl : ∀ p ∈ l, Ok h p.2.2 ∧ kdOk (kdp p)) : ∀ p ∈ setK0 k l, Ok h p.2.2 ∧ kdOk (kdp p) := fun p hp => by
  refine ⟨?_, setK0_ok hk (fun q hq => (hl q hq).2) p hp⟩
  obtain ⟨q, hq, e⟩ := set_mem hp
  rw [← e]; exact (hl q hq).1
/-- Some children are replaced by others. -/
theorem mid_rk {h : Nat} {A M B K : List (Kt h)} {m : Kt h} (hx : (A ++ m :: M ++ B).Pairwise Rk) (hK : K.Pairwise Rk) (hn : ∀ p ∈ K, ent h p.2.2 ≠ []) (_ : ∀ p ∈ B, ent h p.2.2 ≠ [])
    (h1 : ∀ e ∈ entK K, A ≠ [] → slt e.1 m.1 = false) (h2 : ∀ e ∈ entK K, ∀ q ∈ B, slt e.1 q.1 = true) : (A ++ setK0 m.1 K ++ B).Pairwise Rk := by
  obtain ⟨x1, xB, x2⟩ := List.pairwise_append.1 hx
  obtain ⟨xA, _, x3⟩ := List.pairwise_append.1 x1
  have hAK : (A ++ setK0 m.1 K).Pairwise Rk := by
    by_cases hA : A = []
    · subst hA; exact rk_head _ hK
    · refine join_rk xA hK hn (fun e he => ?_) fun e he => h1 e he hA
      obtain ⟨p, hp, he⟩ := List.mem_flatMap.1 he
      exact (x3 p hp m (List.mem_cons_self ..)).1 e he
  refine List.pairwise_append.2 ⟨hAK, xB, fun p hp q hq => ?_⟩
  have hq2 : ∀ e ∈ ent h q.2.2, slt e.1 q.1 = false := (x2 m (List.mem_append_right _ (List.mem_cons_self ..)) q hq).2
  rcases List.mem_append.1 hp with hp | hp
  · exact x2 p (List.mem_append_left _ hp) q hq
  · obtain ⟨z, hz, e⟩ := set_mem hp
    refine ⟨fun e1 he => ?_, hq2⟩
    rw [← e] at he
    exact h2 e1 (List.mem_flatMap.2 ⟨z, hz, he⟩) q hq
theorem endT_str {f h : Nat} (hf : f ≤ 1073741824) {A M B : List (Kt h)} {m : Kt h} {l : List (Tr h)} {st : BSt} (hx : (A ++ m :: M ++ B).Pairwise Rk) (hxo : ∀ p ∈ A ++ m :: M ++ B, Ok h p.2.2 ∧ kdOk (kdp p))
    (hl : FOk h l) (hb : smallL l = false) (hT : TsG l) (hs : StOk st) (hc : ∀ t ∈ l, Hc f st.D st.s h t) (hd : ∀ p ∈ A ++ m :: M ++ B, Hd f st.D st.s h p.2.2 p.2.1)
    (h1 : ∀ e ∈ entF l, A ≠ [] → slt e.1 m.1 = false) (h2 : ∀ e ∈ entF l, ∀ q ∈ B, slt e.1 q.1 = true) {fr to : Nat} (hfr : fr = A.length) (hto : to = A.length + (M.length + 1)) (h0 : (endT f (A ++ m :: M ++ B) l fr to st).2.1 = 0) :
    ∃ tk, Run f st (endT f (A ++ m :: M ++ B) l fr to st).1 tk [] ∧ FOk (h + 1) (endT f (A ++ m :: M ++ B) l fr to st).2.2 ∧ (∀ u ∈ (endT f (A ++ m :: M ++ B) l fr to st).2.2, Hc f (endT f (A ++ m :: M ++ B) l fr to st).1.D (endT f (A ++ m :: M ++ B) l fr to st).1.s (h + 1) u) ∧
      entF (endT f (A ++ m :: M ++ B) l fr to st).2.2 = entK A ++ entF l ++ entK B ∧ (bksF (endT f (A ++ m :: M ++ B) l fr to st).2.2).Perm (bksK A ++ (tk ++ bksF l) ++ bksK B) := by
  obtain ⟨k1, k2, k3, k4, k5⟩ := kidsT_ok hf l st hT hs
  unfold endT at h0 ⊢
  split at h0
  · rename_i hq; exact absurd h0 hq
  · rename_i hq
    rw [if_neg hq]
    have hq : (kidsT f l st).2.1 = 0 := by simpa using hq
    have hlo := hl.big hb
    obtain ⟨tk, r, e1, e2, e3⟩ := kidsT_str hf l st hlo hc hq
    generalize kidsT f l st = q at k3 r e1 e2 e3 ⊢
    obtain ⟨f1, f2, f3, f4, f5⟩ := kids_facts hlo hl.sep e1 e2
    have hlA : (A ++ m :: M).length = A.length + (M.length + 1) := by simp
    have t1 : (A ++ m :: M ++ B).take fr = A := by rw [hfr, List.append_assoc, List.take_left]
    have t2 : (A ++ m :: M ++ B).drop to = B := by rw [hto, ← hlA, List.drop_left]
    have t3 : keyAt (A ++ m :: M ++ B) fr = m.1 := by
      refine keyAt_eq ?_
      rw [hfr, List.append_assoc, List.getElem?_append_right (Nat.le_refl _), Nat.sub_self]
      rfl
    rw [t1, t2, t3]
    have hmk : m.1.length ≤ 112 := (hxo m (by simp)).2.1
    have hmid : ∀ p ∈ A ++ setK0 m.1 q.2.2 ++ B, Ok h p.2.2 ∧ kdOk (kdp p) := fun p hp => by
      rcases List.mem_append.1 hp with hp | hp
      · rcases List.mem_append.1 hp with hp | hp
        · exact hxo p (by simp [hp])
        · exact setK0_ok2 hmk (fun z hz => ⟨f2 z hz, k3 z hz⟩) p hp
      · exact hxo p (by simp [hp])
    have hrk := mid_rk hx f1 (fun p hp => (f2 p hp).ne) (fun p hp => (hxo p (by simp [hp])).1.ne) (fun e he => h1 e (by rw [← f3]; exact he)) (fun e he => h2 e (by rw [← f3]; exact he))
    obtain ⟨p1, p2, p3, p4⟩ := packK_str hmid hrk
    refine ⟨tk, r, p1, fun u hu p hp => ?_, ?_, ?_⟩
    · have := p4 u hu p hp
      rcases List.mem_append.1 this with hp | hp
      · rcases List.mem_append.1 hp with hp | hp
        · exact r.ext.hd (hd p (by simp [hp]))
        · obtain ⟨z, hz, e⟩ := set_mem hp
          rw [← e]; exact e3 z hz
      · exact r.ext.hd (hd p (by simp [hp]))
    · rw [p2, entK_append, entK_append, entK_set, f3]
    · rw [p3, bksK_append, bksK_append, bksK_set]
      exact List.Perm.append_right _ (List.Perm.append_left _ f4)
@[irreducible] def cn (a b : Nat) : Nat := if b = a then 1 else 0
theorem count_c (a b : Nat) (l : List Nat) : (b :: l).count a = cn a b + l.count a := by
  rw [List.count_cons, Nat.add_comm]
  unfold cn
  by_cases h : b = a <;> simp [h]
theorem packK_big {h : Nat} {l : List (Kt h)} (hl : ∀ p ∈ l, kdOk (kdp p)) (h2 : 2 ≤ l.length) : smallL (packK l) = false := by
  have h3 := packF_least (divT (h := h)) l.length l hl h2
  have h4 : ∀ t ∈ packK l, 2 ≤ (asK t).length := h3
  match hp : packK l with
  | [] => rfl
  | [t] =>
    rw [hp] at h4
    have := h4 t (List.mem_singleton.2 rfl)
    show decide ((asK t).length = 1) = false
    exact decide_eq_false (by omega)
  | _ :: _ :: _ => rfl
theorem replT_str {f : Nat} {key : Bs} {mk : List It} (hf : f ≤ 1073741824) (hm : ∀ e ∈ mk, itOk e) (hm1 : mk.length ≤ 1) (hmk : ∀ e ∈ mk, e.1 = key) : ∀ (h : Nat) (t : Tr h) (b : Nat) (st : BSt), Ok h t → Hd f st.D st.s h t b → StOk st → (replT f key mk h t b st).2.1 = 0 →
    ∃ tk gn, Run f st (replT f key mk h t b st).1 tk gn ∧ FOk h (replT f key mk h t b st).2.2 ∧ (∀ u ∈ (replT f key mk h t b st).2.2, Hc f (replT f key mk h t b st).1.D (replT f key mk h t b st).1.s h u) ∧
      entF (replT f key mk h t b st).2.2 = edS mk key (ent h t) ∧ (bksF (replT f key mk h t b st).2.2 ++ gn).Perm (b :: bks h t ++ tk) := by
  intro h
  induction h with
  | zero =>
    intro t b st hO hH hs h0
    unfold replT at h0 ⊢
    split at h0
    · exact absurd h0 (show ¬ ((29 : Int) = 0) by decide)
    · rename_i hd
      rw [if_neg hd]
      obtain ⟨d1, d2⟩ := edS_ok (key := key) hm hm1 hO.2.1
      obtain ⟨p1, p2, p3⟩ := packL_str d1 (edS_sorted hO.2.2.1 hmk hm1)
      exact ⟨[], [b], Run.gone f st b, p1, fun _ _ => trivial, p2, by
        show (bksF (h := 0) (packL (edS mk key t)) ++ [b]).Perm ([b] ++ [])
        rw [p3]; exact List.Perm.refl _⟩
  | succ h ih =>
    intro t b st hO hH hs h0
    have hd : st.D.down = false := by
      cases hd : st.D.down
      · rfl
      · rw [repl_down hd] at h0; exact absurd h0 (show ¬ ((29 : Int) = 0) by decide)
    have hxr : (asK t).Pairwise Rk := hO.2.1
    have hxo : ∀ p ∈ asK t, Ok h p.2.2 ∧ kdOk (kdp p) := hO.2.2.1
    have hx2 : 2 ≤ (asK t).length := hO.1
    have hsub : ∀ p ∈ asK t, Hd f st.D st.s h p.2.2 p.2.1 := hH.2.2.2.2
    obtain ⟨A, c, B, e1, e2, e3, e4, e5, e6⟩ := child_split (key := key) (fun e => by rw [e] at hx2; simp at hx2) hxr fun p hp => (hxo p hp).1.ne
    have hcx : c ∈ asK t := by rw [e1]; simp
    have hci : (asK t)[childF (asK t) key]? = some c := by rw [← e2, e1, List.getElem?_append_right (Nat.le_refl _), Nat.sub_self]; rfl
    have hent : ent (h + 1) t = entK A ++ ent h c.2.2 ++ entK B := by
      show entK (asK t) = _
      rw [e1, show A ++ c :: B = A ++ [c] ++ B by simp, entK_append, entK_append]
      show entK A ++ (ent h c.2.2 ++ []) ++ entK B = _
      rw [List.append_nil]
    have hbks : bks (h + 1) t = bksK A ++ (c.2.1 :: bks h c.2.2) ++ bksK B := by
      show bksK (asK t) = _
      rw [e1, show A ++ c :: B = A ++ [c] ++ B by simp, bksK_append, bksK_append]
      show bksK A ++ (c.2.1 :: bks h c.2.2 ++ []) ++ bksK B = _
      rw [List.append_nil]
    have hed : edS mk key (ent (h + 1) t) = entK A ++ edS mk key (ent h c.2.2) ++ entK B := by rw [hent]; exact edS_mid e3 e4
    rw [hed, hbks]
    obtain ⟨pA, pB, pAB⟩ := List.pairwise_append.1 (e1 ▸ hxr)
    obtain ⟨pcB, _⟩ := List.pairwise_cons.1 pB
    have hc1 : ∀ e ∈ edS mk key (ent h c.2.2), A ≠ [] → slt e.1 c.1 = false := fun e he hA => by
      rcases edS_mem he with he | he
      · rw [hmk e he]; exact e5 hA
      · obtain ⟨p, hp⟩ := List.exists_mem_of_ne_nil _ hA
        exact (pAB p hp c (List.mem_cons_self ..)).2 e he
    have hc2 : ∀ e ∈ edS mk key (ent h c.2.2), ∀ q ∈ B, slt e.1 q.1 = true := fun e he q hq => by
      rcases edS_mem he with he | he
      · rw [hmk e he]; exact e6 q hq
      · exact (pcB q hq).1 e he
    have g0 := Run.gone f st b
    have hcH := hsub c hcx
    have ih := ih c.2.2 c.2.1 (goneT st b) (hxo c hcx).1 hcH (g0.ext.ok hs)
    obtain ⟨o1, o2, o3, o4⟩ := replT_ok (key := key) hf hm hm1 h c.2.2 c.2.1 (goneT st b) hcH (g0.ext.ok hs)
    obtain ⟨r, hr⟩ : ∃ r, r = replT f key mk h c.2.2 c.2.1 (goneT st b) := ⟨_, rfl⟩
    rw [← hr] at ih o1 o2 o3 o4
    have hr0 : r.2.1 = 0 := by
      by_cases hr0 : r.2.1 = 0
      · exact hr0
      · rw [repl_err hd hci hr hr0] at h0
        exact absurd h0 hr0
    obtain ⟨tk1, gn1, r1, i2, i3, i4, i5⟩ := ih hr0
    have hok1 : StOk r.1 := o1.ok (g0.ext.ok hs)
    have hall : ∀ p ∈ asK t, Hd f r.1.D r.1.s h p.2.2 p.2.1 := fun p hp => r1.ext.hd (hsub p hp)
    cases hsm : smallL r.2.2 with
    | false =>
      have hE : replT f key mk (h + 1) t b st = endT f (A ++ c :: [] ++ B) r.2.2 A.length (A.length + 1) r.1 := by
        rw [repl_end hd hci hr hr0 hsm, ← e2]
        have : asK t = A ++ c :: [] ++ B := by rw [e1]; simp
        rw [this]
      rw [hE] at h0 ⊢
      have hx : A ++ c :: [] ++ B = asK t := by rw [e1]; simp
      obtain ⟨tk2, r2, j1, j2, j3, j4⟩ := endT_str hf (M := []) (fr := A.length) (to := A.length + 1) (by rw [hx]; exact hxr) (by rw [hx]; exact hxo) i2 hsm o3 hok1 i3 (by rw [hx]; exact hall) (by rw [i4]; exact hc1) (by rw [i4]; exact hc2) rfl rfl h0
      refine ⟨[] ++ tk1 ++ tk2, [b] ++ gn1 ++ [], (g0.trans r1).trans r2, j1, j2, by rw [j3, i4], ?_⟩
      refine List.perm_iff_count.2 fun a => ?_
      have q1 := List.perm_iff_count.1 j4 a
      have q2 := List.perm_iff_count.1 i5 a
      simp only [List.count_append, count_c, List.count_nil] at q1 q2 ⊢
      omega
    | true =>
      obtain ⟨a, ha, has⟩ := smallL_one hsm
      have hgaO : OkS h a := i2.all a (by rw [ha]; exact List.mem_singleton.2 rfl)
      have hga : NdG (nd h a) := o3 a (by rw [ha]; exact List.mem_singleton.2 rfl)
      have hcA : Hc f r.1.D r.1.s h a := i3 a (by rw [ha]; exact List.mem_singleton.2 rfl)
      have i4 : ent h a = edS mk key (ent h c.2.2) := by rw [ha] at i4; rw [← i4]; show _ = ent h a ++ []; rw [List.append_nil]
      have i5 : (bks h a ++ gn1).Perm (c.2.1 :: bks h c.2.2 ++ tk1) := by rw [ha] at i5; have e : bksF [a] = bks h a := List.append_nil _; rwa [e] at i5
      rw [← i4] at hc1 hc2 ⊢
      cases h with
      | zero => exact absurd has (by show ¬ (false = true); decide)
      | succ g =>
        obtain ⟨n1, n2, n3, n4⟩ := hgaO
        have hal : (asK a).length = 1 := of_decide_eq_true has
        have hj := repl_join hd hci hr hr0 hsm hx2
        have hgt : NdG (nd (g + 1 + 1) t) := hH.top.2.2.1.g
        obtain ⟨kx1, _, _⟩ := nd_kids hgt
        by_cases hA : A = []
        · subst hA
          have hi0 : childF (asK t) key = 0 := by rw [← e2]; rfl
          cases B with
          | nil => rw [e1] at hx2; simp at hx2
          | cons o B =>
            have hox : o ∈ asK t := by rw [e1]; simp
            have ho : (asK t)[if childF (asK t) key = 0 then 1 else childF (asK t) key - 1]? = some o := by rw [if_pos hi0, e1]; rfl
            have hko : keyAt (asK t) 1 = o.1 := keyAt_eq (by rw [e1]; rfl)
            rw [join_eq ho ha, hi0, if_pos rfl, hko] at hj
            have hdr : r.1.D.down = false := by
              cases hdr : r.1.D.down
              · rfl
              · rw [if_pos hdr] at hj; rw [hj] at h0; exact absurd h0 (show ¬ ((29 : Int) = 0) by decide)
            rw [if_neg (by rw [hdr]; decide)] at hj
            rw [hj] at h0 ⊢
            obtain ⟨oO, oK⟩ := hxo o hox
            have hoH := hall o hox
            have hoO : OkS (g + 1) o.2.2 := oO.s
            obtain ⟨m1, m2, m3, m4⟩ := hoO
            have hko2 : o.1.length ≤ 112 := oK.1
            have hJ : ∀ p ∈ asK a ++ setK0 o.1 (asK o.2.2), Ok g p.2.2 ∧ kdOk (kdp p) := fun p hp => by
              rcases List.mem_append.1 hp with hp | hp
              · exact n3 p hp
              · exact setK0_ok2 hko2 m3 p hp
            have hJr : (asK a ++ setK0 o.1 (asK o.2.2)).Pairwise Rk := join_rk n2 m2 (fun p hp => (m3 p hp).1.ne) (fun e he => hc2 e he o (List.mem_cons_self ..)) (fun e he => (pcB o (List.mem_cons_self ..)).2 e he)
            obtain ⟨p1, p2, p3, p4⟩ := packK_str hJ hJr
            have hbig := packK_big (fun p hp => (hJ p hp).2) (by rw [List.length_append, setK0_length]; have := List.length_pos_iff.2 m1; omega)
            obtain ⟨T1, _⟩ := join2_ok (k := o.1) hga hoH.top.2.2.1.g hko2
            have g1 := Run.gone f r.1 o.2.1
            have hx : [] ++ c :: [o] ++ B = asK t := by rw [e1]; simp
            have hx' : endT f (asK t) (join2 (g + 1) a o.2.2 o.1) 0 2 (goneT r.1 o.2.1) = endT f ([] ++ c :: [o] ++ B) (packK (asK a ++ setK0 o.1 (asK o.2.2))) 0 2 (goneT r.1 o.2.1) := by rw [hx]; rfl
            rw [hx'] at h0 ⊢
            have hEJ : entF (packK (asK a ++ setK0 o.1 (asK o.2.2))) = ent (g + 1) a ++ ent (g + 1) o.2.2 := by rw [p2, entK_append, entK_set]; rfl
            have hBJ : bksF (packK (asK a ++ setK0 o.1 (asK o.2.2))) = bks (g + 1) a ++ bks (g + 1) o.2.2 := by rw [p3, bksK_append, bksK_set]; rfl
            have hpo := (List.pairwise_cons.1 (List.pairwise_cons.1 pB).2).1
            obtain ⟨tk2, r2, j1, j2, j3, j4⟩ := endT_str hf (A := []) (M := [o]) (B := B) (m := c) (fr := 0) (to := 2) (by rw [hx]; exact hxr) (by rw [hx]; exact hxo) p1 hbig T1 (g1.ext.ok hok1) (fun u hu p hp => by
                have := p4 u hu p hp
                rcases List.mem_append.1 this with hp | hp
                · exact hcA p hp
                · obtain ⟨z, hz, e⟩ := set_mem hp
                  rw [← e]; exact hoH.2.2.2.2 z hz) (by rw [hx]; exact hall) (fun e he h => absurd rfl h) (fun e he q hq => by
                rw [hEJ] at he
                rcases List.mem_append.1 he with he | he
                · exact hc2 e he q (List.mem_cons_of_mem _ hq)
                · exact (hpo q hq).1 e he) rfl rfl h0
            refine ⟨[] ++ tk1 ++ [] ++ tk2, [b] ++ gn1 ++ [o.2.1] ++ [], ((g0.trans r1).trans g1).trans r2, j1, j2, ?_, ?_⟩
            · rw [j3, hEJ]
              show [] ++ (ent (g + 1) a ++ ent (g + 1) o.2.2) ++ entK B = [] ++ ent (g + 1) a ++ (ent (g + 1) o.2.2 ++ entK B)
              simp
            · refine List.perm_iff_count.2 fun z => ?_
              have q1 := List.perm_iff_count.1 j4 z
              have q2 := List.perm_iff_count.1 i5 z
              rw [hBJ] at q1
              have hbo : bksK (o :: B) = o.2.1 :: bks (g + 1) o.2.2 ++ bksK B := rfl
              rw [hbo]
              simp only [List.count_append, count_c, List.count_nil, show bksK ([] : List (Kt (g + 1))) = [] from rfl] at q1 q2 ⊢
              omega
        · obtain ⟨A', o, rfl⟩ : ∃ A' o, A = A' ++ [o] := ⟨A.dropLast, A.getLast hA, (List.dropLast_concat_getLast hA).symm⟩
          have hlen : (A' ++ [o]).length = A'.length + 1 := by simp
          rw [hlen] at e2
          have hi0 : ¬ childF (asK t) key = 0 := by omega
          have hox : o ∈ asK t := by rw [e1]; simp
          have hi1 : childF (asK t) key - 1 = A'.length := by omega
          have ho : (asK t)[if childF (asK t) key = 0 then 1 else childF (asK t) key - 1]? = some o := by
            rw [if_neg hi0, hi1, e1, List.append_assoc, List.getElem?_append_right (Nat.le_refl _), Nat.sub_self]; rfl
          have hkc : keyAt (asK t) (childF (asK t) key) = c.1 := keyAt_eq hci
          rw [join_eq ho ha, if_neg hi0, hkc, hi1, ← e2] at hj
          have hdr : r.1.D.down = false := by
            cases hdr : r.1.D.down
            · rfl
            · rw [if_pos hdr] at hj; rw [hj] at h0; exact absurd h0 (show ¬ ((29 : Int) = 0) by decide)
          rw [if_neg (by rw [hdr]; decide)] at hj
          rw [hj] at h0 ⊢
          obtain ⟨oO, oK⟩ := hxo o hox
          obtain ⟨cO, cK⟩ := hxo c hcx
          have hoH := hall o hox
          have hoO : OkS (g + 1) o.2.2 := oO.s
          obtain ⟨m1, m2, m3, m4⟩ := hoO
          have hkc2 : c.1.length ≤ 112 := cK.1
          have hoc := pAB o (by simp) c (List.mem_cons_self ..)
          have hJ : ∀ p ∈ asK o.2.2 ++ setK0 c.1 (asK a), Ok g p.2.2 ∧ kdOk (kdp p) := fun p hp => by
            rcases List.mem_append.1 hp with hp | hp
            · exact m3 p hp
            · exact setK0_ok2 hkc2 n3 p hp
          have hJr : (asK o.2.2 ++ setK0 c.1 (asK a)).Pairwise Rk := join_rk m2 n2 (fun p hp => (n3 p hp).1.ne) (fun e he => hoc.1 e he) (fun e he => hc1 e he hA)
          obtain ⟨p1, p2, p3, p4⟩ := packK_str hJ hJr
          have hbig := packK_big (fun p hp => (hJ p hp).2) (by rw [List.length_append, setK0_length]; have := List.length_pos_iff.2 m1; omega)
          obtain ⟨T1, _⟩ := join2_ok (k := c.1) hoH.top.2.2.1.g hga hkc2
          have g1 := Run.gone f r.1 o.2.1
          have hx : A' ++ o :: [c] ++ B = asK t := by rw [e1]; simp
          have hx' : endT f (asK t) (join2 (g + 1) o.2.2 a c.1) A'.length (A'.length + 1 + 1) (goneT r.1 o.2.1) = endT f (A' ++ o :: [c] ++ B) (packK (asK o.2.2 ++ setK0 c.1 (asK a))) A'.length (A'.length + 1 + 1) (goneT r.1 o.2.1) := by rw [hx]; rfl
          rw [hx'] at h0 ⊢
          have hEJ : entF (packK (asK o.2.2 ++ setK0 c.1 (asK a))) = ent (g + 1) o.2.2 ++ ent (g + 1) a := by rw [p2, entK_append, entK_set]; rfl
          have hBJ : bksF (packK (asK o.2.2 ++ setK0 c.1 (asK a))) = bks (g + 1) o.2.2 ++ bks (g + 1) a := by rw [p3, bksK_append, bksK_set]; rfl
          obtain ⟨pA1, _, pA2⟩ := List.pairwise_append.1 pA
          obtain ⟨eo, heo⟩ := List.exists_mem_of_ne_nil _ oO.ne
          obtain ⟨tk2, r2, j1, j2, j3, j4⟩ := endT_str hf (A := A') (M := [c]) (B := B) (m := o) (fr := A'.length) (to := A'.length + 1 + 1) (by rw [hx]; exact hxr) (by rw [hx]; exact hxo) p1 hbig T1 (g1.ext.ok hok1) (fun u hu p hp => by
              have := p4 u hu p hp
              rcases List.mem_append.1 this with hp | hp
              · exact hoH.2.2.2.2 p hp
              · obtain ⟨z, hz, e⟩ := set_mem hp
                rw [← e]; exact hcA z hz) (by rw [hx]; exact hall) (fun e he hA' => by
              obtain ⟨p, hp⟩ := List.exists_mem_of_ne_nil _ hA'
              have hpo := pA2 p hp o (List.mem_singleton.2 rfl)
              rw [hEJ] at he
              rcases List.mem_append.1 he with he | he
              · exact hpo.2 e he
              · cases hq : slt e.1 o.1
                · rfl
                · have w1 := slt_of_le hq (hpo.2 eo heo)
                  have w2 := slt_trans w1 (hoc.1 eo heo)
                  rw [hc1 e he hA] at w2
                  cases w2) (fun e he q hq => by
              rw [hEJ] at he
              rcases List.mem_append.1 he with he | he
              · exact (pAB o (by simp) q (List.mem_cons_of_mem _ hq)).1 e he
              · exact hc2 e he q hq) rfl rfl h0
          refine ⟨[] ++ tk1 ++ [] ++ tk2, [b] ++ gn1 ++ [o.2.1] ++ [], ((g0.trans r1).trans g1).trans r2, j1, j2, ?_, ?_⟩
          · rw [j3, hEJ, entK_append]
            show entK A' ++ (ent (g + 1) o.2.2 ++ ent (g + 1) a) ++ entK B = entK A' ++ (ent (g + 1) o.2.2 ++ []) ++ ent (g + 1) a ++ entK B
            simp
          · refine List.perm_iff_count.2 fun z => ?_
            have q1 := List.perm_iff_count.1 j4 z
            have q2 := List.perm_iff_count.1 i5 z
            rw [hBJ] at q1
            have hbo : bksK (A' ++ [o]) = bksK A' ++ (o.2.1 :: bks (g + 1) o.2.2 ++ []) := by rw [bksK_append]; rfl
            rw [hbo]
            simp only [List.count_append, count_c, List.count_nil] at q1 q2 ⊢
            omega
def okR : Rt → Prop
  | none => True
  | some r => Ok r.1 r.2.2
def hdR (f : Nat) (D : Dk) (s : Bs) : Rt → Prop
  | none => True
  | some r => Hd f D s r.1 r.2.2 r.2.1
def bksR : Rt → List Nat
  | none => []
  | some r => r.2.1 :: bks r.1 r.2.2
theorem OkS.g : ∀ {h : Nat} {t : Tr h}, OkS h t → NdG (nd h t)
  | 0, _, ⟨h1, h2, _, h4⟩ => ⟨h1, h2, h4⟩
  | h + 1, t, ⟨h1, _, h3, h4⟩ => ⟨fun e => h1 (List.map_eq_nil_iff.1 e), fun p hp => by obtain ⟨q, hq, rfl⟩ := List.mem_map.1 (show p ∈ (asK t).map kdp from hp); exact (h3 q hq).2, h4⟩
theorem FOk.t {h : Nat} {l : List (Tr h)} (hl : FOk h l) : TsG l := fun t ht => (hl.all t ht).g
theorem growT_str {f : Nat} (hf : f ≤ 1073741824) : ∀ (n h : Nat) (l : List (Tr h)) (st : BSt), l.length ≤ n → FOk h l → (∀ t ∈ l, Hc f st.D st.s h t) → StOk st → (growT f n h l st).2.1 = 0 →
    ∃ tk, Run f st (growT f n h l st).1 tk [] ∧ okR (growT f n h l st).2.2 ∧ hdR f (growT f n h l st).1.D (growT f n h l st).1.s (growT f n h l st).2.2 ∧ entR (growT f n h l st).2.2 = entF l ∧ (bksR (growT f n h l st).2.2).Perm (tk ++ bksF l) := by
  intro n
  induction n with
  | zero =>
    intro h l st hn _ _ _ _
    have : l = [] := List.eq_nil_of_length_eq_zero (by omega)
    subst this
    exact ⟨[], Run.refl f st, trivial, trivial, rfl, List.Perm.refl _⟩
  | succ n ih =>
    intro h l st hn hl hc hs h0
    by_cases hl0 : l.length = 0
    · have e : growT f (n + 1) h l st = (st, 0, none) := if_pos hl0
      rw [e]
      have : l = [] := List.eq_nil_of_length_eq_zero hl0
      subst this
      exact ⟨[], Run.refl f st, trivial, trivial, rfl, List.Perm.refl _⟩
    · by_cases ho : (oneKid h l).isSome = true
      · have e : growT f (n + 1) h l st = (st, 0, oneKid h l) := by
          show (if l.length = 0 then _ else _) = _
          rw [if_neg hl0, if_pos ho]
        rw [e]
        match h, l, hl, hc, ho with
        | h + 1, [t], hl, hc, ho =>
          have ho : (kid1 (asK t)).isSome = true := ho
          obtain ⟨n1, n2, n3, n4⟩ := hl.all t (List.mem_singleton.2 rfl)
          match hk : asK t with
          | [p] =>
            have e2 : oneKid (h + 1) [t] = some ⟨h, p.2.1, p.2.2⟩ := by show kid1 (asK t) = _; rw [hk]; rfl
            rw [e2]
            have hp : p ∈ asK t := by rw [hk]; exact List.mem_singleton.2 rfl
            refine ⟨[], Run.refl f st, (n3 p hp).1, hc t (List.mem_singleton.2 rfl) p hp, ?_, ?_⟩
            · show ent h p.2.2 = entK (asK t) ++ []
              rw [hk]
              show _ = ent h p.2.2 ++ [] ++ []
              simp
            · show (p.2.1 :: bks h p.2.2).Perm ([] ++ (bksK (asK t) ++ []))
              rw [hk]
              show (p.2.1 :: bks h p.2.2).Perm (p.2.1 :: bks h p.2.2 ++ [] ++ [])
              simp
          | [] => rw [hk] at ho; cases ho
          | _ :: _ :: _ => rw [hk] at ho; cases ho
        | 0, _, _, _, ho => cases ho
        | _ + 1, [], _, _, ho => cases ho
        | _ + 1, _ :: _ :: _, _, _, ho => cases ho
      · have hsm : smallL l = false := by
          match h, l, ho with
          | 0, [], _ => rfl
          | 0, [_], _ => rfl
          | 0, _ :: _ :: _, _ => rfl
          | h + 1, [], _ => rfl
          | h + 1, [t], ho =>
            show decide ((asK t).length = 1) = false
            refine decide_eq_false fun h1 => ho ?_
            obtain ⟨p, hp⟩ := List.length_eq_one_iff.1 h1
            show (kid1 (asK t)).isSome = true
            rw [hp]; rfl
          | h + 1, _ :: _ :: _, _ => rfl
        have hlo := hl.big hsm
        have e : growT f (n + 1) h l st = if (kidsT f l st).2.1 ≠ 0 then ((kidsT f l st).1, (kidsT f l st).2.1, none) else if (kid1 (kidsT f l st).2.2).isSome then ((kidsT f l st).1, 0, kid1 (kidsT f l st).2.2) else growT f n (h + 1) (packK (kidsT f l st).2.2) (kidsT f l st).1 := by
          show (if l.length = 0 then _ else _) = _
          rw [if_neg hl0, if_neg ho]
        have hk0 : (kidsT f l st).2.1 = 0 := by
          by_cases hk0 : (kidsT f l st).2.1 = 0
          · exact hk0
          · rw [e, if_pos hk0] at h0; exact h0
        rw [e, if_neg (by rw [hk0]; decide)] at h0 ⊢
        obtain ⟨k1, k2, k3, k4, k5⟩ := kidsT_ok hf l st hl.t hs
        obtain ⟨tk, r, e1, e2, e3⟩ := kidsT_str hf l st hlo hc hk0
        obtain ⟨f1, f2, f3, f4, f5⟩ := kids_facts hlo hl.sep e1 e2
        have hq := k1.ok hs
        generalize kidsT f l st = q at k3 r e1 e2 e3 f1 f2 f3 f4 f5 h0 hq ⊢
        by_cases h1 : (kid1 q.2.2).isSome = true
        · rw [if_pos h1]
          match hk : q.2.2 with
          | [p] =>
            have hp : p ∈ q.2.2 := by rw [hk]; exact List.mem_singleton.2 rfl
            refine ⟨tk, r, f2 p hp, e3 p hp, ?_, ?_⟩
            · rw [← f3, hk]
              show ent h p.2.2 = ent h p.2.2 ++ []
              simp
            · refine List.Perm.trans ?_ f4
              rw [hk]
              show (p.2.1 :: bks h p.2.2).Perm (p.2.1 :: bks h p.2.2 ++ [])
              simp
          | [] => rw [hk] at h1; cases h1
          | _ :: _ :: _ => rw [hk] at h1; cases h1
        · rw [if_neg h1] at h0 ⊢
          have h2 : 2 ≤ q.2.2.length := by
            match hk : q.2.2 with
            | [] => rw [hk] at f5; exact absurd f5.symm hl0
            | [p] => rw [hk] at h1; exact absurd rfl h1
            | _ :: _ :: _ => simp
          obtain ⟨p1, p2, p3, p4⟩ := packK_str (fun p hp => ⟨f2 p hp, k3 p hp⟩) f1
          have hhalf := packK_half k3 h2
          obtain ⟨tk2, r2, j1, j2, j3, j4⟩ := ih (h + 1) (packK q.2.2) q.1 (by omega) p1 (fun t ht p hp => e3 p (p4 t ht p hp)) hq h0
          refine ⟨tk ++ tk2, by have := r.trans r2; exact this, j1, j2, by rw [j3, p2, f3], ?_⟩
          refine List.perm_iff_count.2 fun a => ?_
          have q1 := List.perm_iff_count.1 j4 a
          have q2 := List.perm_iff_count.1 f4 a
          rw [p3] at q1
          simp only [List.count_append] at q1 q2 ⊢
          omega
theorem finT_str {f : Nat} (hf : f ≤ 1073741824) {h : Nat} {r : BSt × Int × List (Tr h)} (hl : FOk h r.2.2) (hc : ∀ t ∈ r.2.2, Hc f r.1.D r.1.s h t) (hs : StOk r.1) (h0 : (finT f h r).2.1 = 0) :
    ∃ tk, Run f r.1 (finT f h r).1 tk [] ∧ okR (finT f h r).2.2 ∧ hdR f (finT f h r).1.D (finT f h r).1.s (finT f h r).2.2 ∧ entR (finT f h r).2.2 = entF r.2.2 ∧ (bksR (finT f h r).2.2).Perm (tk ++ bksF r.2.2) := by
  unfold finT at h0 ⊢
  split at h0
  · rename_i h1; exact absurd h0 h1
  · rename_i h1
    rw [if_neg h1]
    exact growT_str hf _ h r.2.2 r.1 (Nat.le_refl _) hl hc hs h0
theorem applyT_str {f : Nat} {key : Bs} {mk : List It} (hf : f ≤ 1073741824) (hm : ∀ e ∈ mk, itOk e) (hm1 : mk.length ≤ 1) (hmk : ∀ e ∈ mk, e.1 = key) {rt : Rt} {D : Dk} {s : Bs} (hO : okR rt) (hH : hdR f D s rt) (hs : StOk ⟨D, s, [], []⟩) (h0 : (applyT f key mk rt D s).2.1 = 0) :
    ∃ tk gn, Run f ⟨D, s, [], []⟩ (applyT f key mk rt D s).1 tk gn ∧ okR (applyT f key mk rt D s).2.2 ∧ hdR f (applyT f key mk rt D s).1.D (applyT f key mk rt D s).1.s (applyT f key mk rt D s).2.2 ∧ entR (applyT f key mk rt D s).2.2 = edS mk key (entR rt) ∧ (bksR (applyT f key mk rt D s).2.2 ++ gn).Perm (bksR rt ++ tk) := by
  match rt, hO, hH, h0 with
  | none, _, _, h0 =>
    have e0 : edS mk key [] = mk := by simp [edS, findF, hasF]
    obtain ⟨d1, d2⟩ := edS_ok (l := []) (key := key) hm hm1 (by intro e he; cases he)
    obtain ⟨p1, p2, p3⟩ := packL_str d1 (edS_sorted (l := []) (key := key) List.Pairwise.nil hmk hm1)
    obtain ⟨tk, r, j1, j2, j3, j4⟩ := finT_str hf (h := 0) (r := (⟨D, s, [], []⟩, 0, packL (edS mk key []))) p1 (fun _ _ => trivial) hs h0
    refine ⟨tk, [], r, j1, j2, j3.trans p2, ?_⟩
    rw [List.append_nil]
    refine j4.trans ?_
    have p3 : bksF (h := 0) ((⟨D, s, [], []⟩, 0, packL (edS mk key [])) : BSt × Int × List (Tr 0)).2.2 = [] := p3
    rw [p3, List.append_nil]
    exact List.Perm.refl _
  | some r, hO, hH, h0 =>
    obtain ⟨o1, o2, o3, o4⟩ := replT_ok (key := key) hf hm hm1 r.1 r.2.2 r.2.1 ⟨D, s, [], []⟩ hH hs
    have h1 : (replT f key mk r.1 r.2.2 r.2.1 ⟨D, s, [], []⟩).2.1 = 0 := by
      by_cases h1 : (replT f key mk r.1 r.2.2 r.2.1 ⟨D, s, [], []⟩).2.1 = 0
      · exact h1
      · have h0 : (finT f r.1 (replT f key mk r.1 r.2.2 r.2.1 ⟨D, s, [], []⟩)).2.1 = 0 := h0
        unfold finT at h0
        rw [if_pos h1] at h0
        exact h0
    obtain ⟨tk1, gn1, r1, i2, i3, i4, i5⟩ := replT_str hf hm hm1 hmk r.1 r.2.2 r.2.1 ⟨D, s, [], []⟩ hO hH hs h1
    obtain ⟨tk, r2, j1, j2, j3, j4⟩ := finT_str hf i2 i3 (o1.ok hs) h0
    refine ⟨tk1 ++ tk, gn1 ++ [], r1.trans r2, j1, j2, j3.trans i4, ?_⟩
    refine List.perm_iff_count.2 fun a => ?_
    have q1 := List.perm_iff_count.1 j4 a
    have q2 := List.perm_iff_count.1 i5 a
    show List.count a (bksR (finT f r.1 (replT f key mk r.1 r.2.2 r.2.1 ⟨D, s, [], []⟩)).2.2 ++ (gn1 ++ [])) = List.count a (r.2.1 :: bks r.1 r.2.2 ++ (tk1 ++ tk))
    simp only [List.count_append, count_c, List.count_nil] at q1 q2 ⊢
    omega
theorem Hd.all {f D s} : ∀ {h : Nat} {t : Tr h} {b : Nat}, Hd f D s h t b → ∀ x ∈ b :: bks h t, x < D.n ∧ nf f s x
  | 0, _, _, ⟨h1, h2, _⟩, x, hx => by
    rcases List.mem_cons.1 hx with rfl | hx
    · exact ⟨h1, h2⟩
    · cases hx
  | h + 1, t, b, ⟨h1, h2, _, _, h5⟩, x, hx => by
    rcases List.mem_cons.1 hx with rfl | hx
    · exact ⟨h1, h2⟩
    · obtain ⟨p, hp, hx⟩ := List.mem_flatMap.1 (show x ∈ (asK t).flatMap (fun p => p.2.1 :: bks h p.2.2) from hx)
      exact (h5 p hp).all x hx
theorem Hd.congr {f : Nat} {D D' : Dk} {s s' : Bs} (hn : D'.n = D.n) : ∀ {h : Nat} {t : Tr h} {b : Nat}, Hd f D s h t b → (∀ x ∈ b :: bks h t, nf f s' x ∧ D'.vis x = D.vis x) → Hd f D' s' h t b
  | 0, _, b, ⟨h1, _, h3, h4⟩, hx => by
    obtain ⟨a1, a2⟩ := hx b (List.mem_cons_self ..)
    exact ⟨by rw [hn]; exact h1, a1, h3, a2.trans h4⟩
  | h + 1, t, b, ⟨h1, _, h3, h4, h5⟩, hx => by
    obtain ⟨a1, a2⟩ := hx b (List.mem_cons_self ..)
    refine ⟨by rw [hn]; exact h1, a1, h3, a2.trans h4, fun p hp => (h5 p hp).congr hn fun x hx2 => hx x (List.mem_cons_of_mem _ ?_)⟩
    exact List.mem_flatMap.2 ⟨p, hp, hx2⟩
theorem hdR.all {f D s} : ∀ {rt : Rt}, hdR f D s rt → ∀ x ∈ bksR rt, x < D.n ∧ nf f s x
  | none, _, x, hx => by cases hx
  | some _, h, x, hx => Hd.all h x hx
theorem hdR.congr {f : Nat} {D D' : Dk} {s s' : Bs} (hn : D'.n = D.n) : ∀ {rt : Rt}, hdR f D s rt → (∀ x ∈ bksR rt, nf f s' x ∧ D'.vis x = D.vis x) → hdR f D' s' rt
  | none, _, _ => trivial
  | some _, h, hx => Hd.congr hn h hx
/-- The states of the blocks fit to a tree and to the committed one. -/
structure PI (f : Nat) (D : Dk) (s : Bs) (rt ct : Rt) : Prop where
  ok : okR rt
  hd : hdR f D s rt
  nd : (bksR rt).Nodup
  use : ∀ i, i < s.length → ((s.getD i 0 = 1 ∨ s.getD i 0 = 2) ↔ f + i ∈ bksR rt)
  cok : okR ct
  chd : hdR f D s ct
  cnd : (bksR ct).Nodup
  old : ∀ i, i < s.length → ((s.getD i 0 = 1 ∨ s.getD i 0 = 3) ↔ f + i ∈ bksR ct)
  le4 : ∀ c ∈ s, c.toNat < 4
theorem getD_mem {s : Bs} {i : Nat} (h : i < s.length) : s.getD i 0 ∈ s := by
  rw [List.getD_eq_getElem?_getD, List.getElem?_eq_getElem h]
  exact List.getElem_mem h
theorem le4_set {s : Bs} {i : Nat} {c : UInt8} (h : ∀ c ∈ s, c.toNat < 4) (hc : c.toNat < 4) : ∀ d ∈ s.set i c, d.toNat < 4 := fun d hd => by
  rcases List.mem_or_eq_of_mem_set hd with hd | hd
  · exact h d hd
  · rw [hd]; exact hc
theorem giveL_le4 {f : Nat} : ∀ (l : List Nat) {s : Bs}, (∀ c ∈ s, c.toNat < 4) → ∀ c ∈ giveL f s l, c.toNat < 4 := by
  intro l
  induction l with
  | nil => intro s h; exact h
  | cons b l ih =>
    intro s h
    refine ih ?_
    unfold giveS
    split
    · exact h
    · split
      · exact le4_set h (by decide)
      · split
        · exact le4_set h (by decide)
        · exact h
/-- Only free blocks are written. -/
theorem Run.kept {f : Nat} {st st' : BSt} {l g : List Nat} (r : Run f st st' l g) {rt : Rt} (h : hdR f st.D st.s rt) : ∀ x ∈ bksR rt, x ∉ l ∧ nf f st'.s x ∧ st'.D.vis x = st.D.vis x := fun x hx => by
  obtain ⟨_, h2, h3, h4⟩ := h.all x hx
  have hn : x ∉ l := fun hm => h4 (r.tak.free x hm).2.2
  refine ⟨hn, ⟨h2, by rw [r.tak.len]; exact h3, ?_⟩, r.dx.vis hn⟩
  rw [r.tak.get, show f + (x - f) = x by omega, if_neg hn]
  exact h4
theorem gv_used (c : UInt8) : ¬ (gv c = 1 ∨ gv c = 2) := by
  unfold gv
  split
  · decide
  · split
    · decide
    · rename_i h1 h2; exact fun h => h.elim h1 h2
theorem gv_old {c : UInt8} (hc : c = 1 ∨ c = 2) : (gv c = 1 ∨ gv c = 3) ↔ (c = 1 ∨ c = 3) := by
  rcases hc with rfl | rfl <;> decide
theorem giveL_pi {f : Nat} {D D' : Dk} {s s1 : Bs} {rt rt' ct : Rt} {tk gn : List Nat} (P : PI f D s rt ct) (ht : Tk f s tk s1) (hdx : DExt (· ∈ tk) D D') (hok : okR rt') (hhd : hdR f D' s1 rt') (hp : (bksR rt' ++ gn).Perm (bksR rt ++ tk)) :
    GiveOk f s1 gn ∧ (∀ b ∈ gn, b < f + s.length) ∧ PI f D' (giveL f s1 gn) rt' ct := by
  have hdis : ∀ x ∈ bksR rt, x ∉ tk := fun x hx hm => (P.hd.all x hx).2.2.2 (ht.free x hm).2.2
  have hnd : (bksR rt ++ tk).Nodup := List.nodup_append.2 ⟨P.nd, ht.nodup, fun a ha b hb e => hdis a ha (e ▸ hb)⟩
  have hnd2 := hp.symm.nodup hnd
  obtain ⟨n1, n2, n3⟩ := List.nodup_append.1 hnd2
  have hin : ∀ x ∈ bksR rt ++ tk, f ≤ x ∧ x - f < s.length ∧ (s1.getD (x - f) 0 = 1 ∨ s1.getD (x - f) 0 = 2) := fun x hx => by
    rcases List.mem_append.1 hx with hx | hx
    · obtain ⟨_, a1, a2, a3⟩ := P.hd.all x hx
      refine ⟨a1, a2, ?_⟩
      rw [ht.get, show f + (x - f) = x by omega, if_neg (hdis x hx)]
      exact (P.use (x - f) a2).2 (by rw [show f + (x - f) = x by omega]; exact hx)
    · obtain ⟨a1, a2, _⟩ := ht.free x hx
      refine ⟨a1, a2, .inr ?_⟩
      rw [ht.get, show f + (x - f) = x by omega, if_pos hx]
  have hgn : ∀ x ∈ gn, x ∈ bksR rt ++ tk := fun x hx => hp.mem_iff.1 (List.mem_append_right _ hx)
  have hlen : (giveL f s1 gn).length = s.length := (giveL_len f gn s1).trans ht.len
  have hget := giveL_get n2 (fun x hx => ⟨(hin x (hgn x hx)).1, by rw [ht.len]; exact (hin x (hgn x hx)).2.1⟩)
  have hst : ∀ i, i < s.length → ((s1.getD i 0 = 1 ∨ s1.getD i 0 = 2) ↔ f + i ∈ bksR rt ++ tk) := fun i hi => by
    rw [ht.get]
    by_cases hm : f + i ∈ tk
    · rw [if_pos hm]
      exact ⟨fun _ => List.mem_append_right _ hm, fun _ => .inr rfl⟩
    · rw [if_neg hm, P.use i hi]
      exact ⟨fun h => List.mem_append_left _ h, fun h => (List.mem_append.1 h).elim id fun h => absurd h hm⟩
  have hso : ∀ i, i < s.length → ((s1.getD i 0 = 1 ∨ s1.getD i 0 = 3) ↔ f + i ∈ bksR ct) := fun i hi => by
    rw [ht.get]
    by_cases hm : f + i ∈ tk
    · rw [if_pos hm]
      have h0 := (ht.free _ hm).2.2
      rw [show f + i - f = i by omega] at h0
      refine ⟨fun h => absurd h (by decide), fun h => ?_⟩
      have := (P.old i hi).2 h
      rw [h0] at this
      exact absurd this (by decide)
    · rw [if_neg hm]; exact P.old i hi
  refine ⟨GiveOk.mk n2 fun x hx => ?_, fun x hx => ?_, ⟨hok, ?_, n1, fun i hi => ?_, P.cok, ?_, P.cnd, fun i hi => ?_, ?_⟩⟩
  · obtain ⟨a1, a2, a3⟩ := hin x (hgn x hx)
    exact ⟨a1, by rw [ht.len]; exact a2, a3⟩
  · obtain ⟨a1, a2, _⟩ := hin x (hgn x hx)
    omega
  · refine hhd.congr rfl fun x hx => ⟨?_, rfl⟩
    obtain ⟨_, a1, a2, a3⟩ := hhd.all x hx
    refine ⟨a1, by rw [hlen, ← ht.len]; exact a2, ?_⟩
    rw [hget, if_neg]
    · exact a3
    · rw [show f + (x - f) = x by omega]
      exact fun hm => n3 x hx x hm rfl
  · rw [hlen] at hi
    rw [hget]
    by_cases hm : f + i ∈ gn
    · rw [if_pos hm]
      exact ⟨fun h => absurd h (gv_used _), fun h => absurd rfl (n3 _ h _ hm)⟩
    · rw [if_neg hm, hst i hi, ← hp.mem_iff]
      exact ⟨fun h => (List.mem_append.1 h).elim id fun h => absurd h hm, fun h => List.mem_append_left _ h⟩
  · refine P.chd.congr hdx.n fun x hx => ?_
    obtain ⟨_, a1, a2, a3⟩ := P.chd.all x hx
    have hno : x ∉ tk := fun hm => a3 (ht.free x hm).2.2
    refine ⟨⟨a1, by rw [hlen]; exact a2, ?_⟩, hdx.vis hno⟩
    have h13 := (hso (x - f) a2).2 (by rw [show f + (x - f) = x by omega]; exact hx)
    rw [hget]
    split
    · rename_i hm
      have h12 := (hin _ (hgn _ hm)).2.2
      rw [show f + (x - f) - f = x - f by omega] at h12
      have := (gv_old h12).2 h13
      rcases this with h | h <;> rw [h] <;> decide
    · rcases h13 with h | h <;> rw [h] <;> decide
  · rw [hlen] at hi
    rw [hget]
    split
    · rename_i hm
      have h12 := (hin _ (hgn _ hm)).2.2
      rw [show f + i - f = i by omega] at h12
      rw [gv_old h12]
      exact hso i hi
    · exact hso i hi
  · exact giveL_le4 gn (ht.le4 P.le4)
theorem apply_pi {f : Nat} {key : Bs} {mk : List It} (hf : f ≤ 1073741824) (hm : ∀ e ∈ mk, itOk e) (hm1 : mk.length ≤ 1) (hmk : ∀ e ∈ mk, e.1 = key) {rt ct : Rt} {D : Dk} {s : Bs} (P : PI f D s rt ct) (hR : RHd f D s rt) (hs : StOk ⟨D, s, [], []⟩) {A : BSt × Int × Rt} (hA : A = applyT f key mk rt D s) :
    (A.2.1 = 0 → GiveOk f A.1.s A.1.gn) ∧ (∀ b ∈ A.1.tk, b ≤ 1099511627776) ∧ (A.2.1 = 0 → ∀ b ∈ A.1.gn, b ≤ 1099511627776) ∧ PI f A.1.D (apS f A) (apR A rt) ct ∧ (A.2.1 ≠ 0 → apS f A = s ∧ apR A rt = rt) ∧ (A.2.1 = 0 → entR (apR A rt) = edS mk key (entR rt)) ∧
      (Live f ⟨D, s, [], []⟩ → A.2.1 = 0 ∨ A.2.1 = 26 ∧ frS s < 3 * hgtR rt + 1) ∧ (apS f A).length = s.length ∧ A.1.D.ops ≤ D.ops + s.length ∧ A.1.D.pend.length ≤ D.pend.length + s.length ∧ DExt (fun b => b ∉ bksR ct) D A.1.D := by
  obtain ⟨l, g, r, hl, hlive⟩ := applyT_does (key := key) hf hm hm1 hR hs
  rw [← hA] at r hlive
  have hslen : s.length ≤ 65536 := hs.1
  have htk : A.1.tk = l := by rw [r.tk]; rfl
  have hll : l.length ≤ s.length := by have := r.tak.fr; have := frS_le s; show l.length ≤ s.length; have h9 : frS A.1.s + l.length = frS s := r.tak.fr; omega
  have htb : ∀ b ∈ A.1.tk, b ≤ 1099511627776 := fun b hb => by
    rw [htk] at hb
    obtain ⟨a1, a2, _⟩ := r.tak.free b hb
    have a2 : b - f < s.length := a2
    omega
  have hcd : DExt (fun b => b ∉ bksR ct) D A.1.D := (DExt.refl (fun _ => False) D).trans r.dx (fun _ h => h.elim) fun x hx hm => (P.chd.all x hm).2.2.2 (r.tak.free x hx).2.2
  have hops : A.1.D.ops ≤ D.ops + s.length ∧ A.1.D.pend.length ≤ D.pend.length + s.length := by
    obtain ⟨c1, c2⟩ := r.cnt
    exact ⟨Nat.le_trans c1 (Nat.add_le_add_left hll _), Nat.le_trans c2 (Nat.add_le_add_left hll _)⟩
  by_cases h0 : A.2.1 = 0
  · obtain ⟨tk, gn, r2, j1, j2, j3, j4⟩ := applyT_str hf hm hm1 hmk P.ok P.hd hs (by rw [← hA]; exact h0)
    rw [← hA] at r2 j1 j2 j3 j4
    have hgn : A.1.gn = gn := by rw [r2.gn]; rfl
    obtain ⟨g1, g2, g3⟩ := giveL_pi P r2.tak r2.dx j1 j2 j4
    have e1 : apS f A = giveL f A.1.s gn := by unfold apS; rw [if_pos h0, hgn]
    have e2 : apR A rt = A.2.2 := by unfold apR; rw [if_pos h0]
    refine ⟨fun _ => by rw [hgn]; exact g1, htb, fun _ b hb => by rw [hgn] at hb; have := g2 b hb; omega, by rw [e1, e2]; exact g3, fun h => absurd h0 h, fun _ => by rw [e2]; exact j3, hlive, ?_, hops.1, hops.2, hcd⟩
    rw [e1, giveL_len]; exact r2.tak.len
  · have e1 : apS f A = s := by unfold apS; rw [if_neg h0, htk]; exact r.tak.give
    have e2 : apR A rt = rt := by unfold apR; rw [if_neg h0]
    refine ⟨fun h => absurd h h0, htb, fun h => absurd h h0, ?_, fun _ => ⟨e1, e2⟩, fun h => absurd h h0, hlive, by rw [e1], hops.1, hops.2, hcd⟩
    rw [e1, e2]
    have k1 := r.kept (rt := rt) P.hd
    have k2 := r.kept (rt := ct) P.chd
    exact ⟨P.ok, P.hd.congr r.dx.n fun x hx => ⟨(P.hd.all x hx).2, (k1 x hx).2.2⟩, P.nd, P.use, P.cok, P.chd.congr r.dx.n fun x hx => ⟨(P.chd.all x hx).2, (k2 x hx).2.2⟩, P.cnd, P.old, P.le4⟩
theorem lookL_mid {A L B : List It} {key : Bs} (h1 : ∀ a ∈ A, slt a.1 key = true) (h2 : ∀ b ∈ B, slt key b.1 = true) : lookL (A ++ L ++ B) key = lookL L key := by
  unfold lookL
  rw [has_right h2, has_left h1, find_right h2, find_left h1]
  split
  · rename_i hh
    have hlt := has_lt2 hh
    congr 2
    rw [List.getD_eq_getElem?_getD, List.getD_eq_getElem?_getD, List.append_assoc, List.getElem?_append_right (by omega), Nat.add_sub_cancel_left, List.getElem?_append_left hlt]
  · rfl
theorem getT_good {f : Nat} {key : Bs} {D : Dk} {s : Bs} (hd : D.down = false) : ∀ {h : Nat} {t : Tr h} {b : Nat}, Ok h t → Hd f D s h t b → getT key D h t b = (0, lookL (ent h t) key) := by
  intro h
  induction h with
  | zero => intro t b _ hH; exact getT_leaf (hH.rd0 hd)
  | succ h ih =>
    intro t b hO hH
    have hxr : (asK t).Pairwise Rk := hO.2.1
    have hxo : ∀ p ∈ asK t, Ok h p.2.2 ∧ kdOk (kdp p) := hO.2.2.1
    have hx2 : 2 ≤ (asK t).length := hO.1
    obtain ⟨A, c, B, e1, e2, e3, e4, _, _⟩ := child_split (key := key) (fun e => by rw [e] at hx2; simp at hx2) hxr fun p hp => (hxo p hp).1.ne
    have hcx : c ∈ asK t := by rw [e1]; simp
    have hci : (asK t)[childF (asK t) key]? = some c := by rw [← e2, e1, List.getElem?_append_right (Nat.le_refl _), Nat.sub_self]; rfl
    rw [getT_down (hH.rd0 hd) hci, ih (hxo c hcx).1 (hH.2.2.2.2 c hcx)]
    have hent : ent (h + 1) t = entK A ++ ent h c.2.2 ++ entK B := by
      show entK (asK t) = _
      rw [e1, show A ++ c :: B = A ++ [c] ++ B by simp, entK_append, entK_append]
      show entK A ++ (ent h c.2.2 ++ []) ++ entK B = _
      rw [List.append_nil]
    rw [hent]
    exact congrArg (Prod.mk (0 : Int)) (lookL_mid (L := ent h c.2.2) e3 e4).symm
/-! ### ranges -/
theorem colL_append {fr to : Bs} {most : Nat} (a b o : List It) : colL fr to most (a ++ b) o = colL fr to most b (colL fr to most a o) := by
  unfold colL; rw [List.foldl_append]
theorem colL_none {fr to : Bs} {most : Nat} : ∀ {l o : List It}, (∀ e ∈ l, inB fr to e = false) → colL fr to most l o = o := by
  intro l
  induction l with
  | nil => intro o _; rfl
  | cons e l ih =>
    intro o h
    show colL fr to most l (colS fr to most o e) = o
    have : colS fr to most o e = o := if_neg fun h2 => by rw [h e (List.mem_cons_self ..)] at h2; exact absurd h2.1 (by decide)
    rw [this]
    exact ih fun x hx => h x (List.mem_cons_of_mem _ hx)
theorem colL_full {fr to : Bs} {most : Nat} : ∀ {l o : List It}, most ≤ o.length → colL fr to most l o = o := by
  intro l
  induction l with
  | nil => intro o _; rfl
  | cons e l ih =>
    intro o h
    show colL fr to most l (colS fr to most o e) = o
    have : colS fr to most o e = o := if_neg fun h2 => by omega
    rw [this]
    exact ih h
theorem colL_every {fr to : Bs} {most : Nat} : ∀ {l o : List It}, (∀ e ∈ l, inB fr to e = true) → o.length + l.length ≤ most → colL fr to most l o = o ++ l := by
  intro l
  induction l with
  | nil => intro o _ _; simp [colL]
  | cons e l ih =>
    intro o h hl
    rw [List.length_cons] at hl
    show colL fr to most l (colS fr to most o e) = o ++ e :: l
    have : colS fr to most o e = o ++ [e] := if_pos ⟨h e (List.mem_cons_self ..), by omega⟩
    rw [this, ih (fun x hx => h x (List.mem_cons_of_mem _ hx)) (by rw [List.length_append, List.length_singleton]; omega)]
    simp
theorem inB_all (e : It) : inB [] [] e = true := by unfold inB; rw [slt_nil2]; rfl
theorem inB_lo {fr to : Bs} {e : It} (h : slt e.1 fr = true) : inB fr to e = false := by unfold inB; rw [h]; rfl
theorem inB_hi {fr to : Bs} {e : It} (h0 : to ≠ []) (h : slt e.1 to = false) : inB fr to e = false := by unfold inB; rw [h]; simp [h0]
theorem colK_law {h : Nat} {fr to : Bs} {most : Nat} {g : Kt h → List It → List It} : ∀ (l : List (Kt h)) (i : Nat) (o : List It), l.Pairwise Rk → (∀ p ∈ l, ent h p.2.2 ≠ []) → (0 < i → ∀ p, l.head? = some p → ∀ e ∈ ent h p.2.2, slt e.1 p.1 = false) → (∀ p ∈ l, ∀ o, g p o = colL fr to most (ent h p.2.2) o) →
    colK g (fun p => p.1) to most i l o = colL fr to most (entK l) o := by
  intro l
  induction l with
  | nil => intro i o _ _ _ _; rfl
  | cons p l ih =>
    intro i o hr hn hi hg
    obtain ⟨r1, r2⟩ := List.pairwise_cons.1 hr
    by_cases hX : colX to most i p.1 o
    · rw [colK_stop (g := g) (ky := fun p => p.1) hX]
      rcases hX with hX | ⟨x1, x2, x3⟩
      · exact (colL_full hX).symm
      · refine (colL_none fun e he => inB_hi x2 ?_).symm
        obtain ⟨q, hq, heq⟩ := List.mem_flatMap.1 he
        have hp := hi x1 p rfl
        rcases List.mem_cons.1 hq with e1 | hq
        · rw [e1] at heq; exact not_lt_trans (hp e heq) x3
        · obtain ⟨e0, he0⟩ := List.exists_mem_of_ne_nil _ (hn p (List.mem_cons_self ..))
          have c1 := not_lt_trans (hp e0 he0) x3
          have c2 := (r1 q hq).1 e0 he0
          have c3 := (r1 q hq).2 e heq
          cases c : slt e.1 to
          · rfl
          · have c4 := slt_of_le c c1
            rw [slt_trans c4 c2] at c3
            cases c3
    · rw [colK_go (g := g) (ky := fun p => p.1) hX, ih (i + 1) (g p o) r2 (fun q hq => hn q (List.mem_cons_of_mem _ hq)) (fun _ q hq e he => ?_) fun q hq => hg q (List.mem_cons_of_mem _ hq), hg p (List.mem_cons_self ..)]
      · show _ = colL fr to most (ent h p.2.2 ++ entK l) o
        rw [colL_append]
      · cases l with
        | nil => cases hq
        | cons q' l =>
          cases hq
          exact (r1 q (List.mem_cons_self ..)).2 e he
theorem collT_law {fr to : Bs} {most : Nat} : ∀ {h : Nat} {t : Tr h}, Ok h t → ∀ o, collT fr to most h t o = colL fr to most (ent h t) o := by
  intro h
  induction h with
  | zero => intro t _ o; rfl
  | succ h ih =>
    intro t hO o
    have hxr : (asK t).Pairwise Rk := hO.2.1
    have hxo : ∀ p ∈ asK t, Ok h p.2.2 ∧ kdOk (kdp p) := hO.2.2.1
    have hx2 : 2 ≤ (asK t).length := hO.1
    obtain ⟨A, c, B, e1, e2, e3, _, _, _⟩ := child_split (key := fr) (fun e => by rw [e] at hx2; simp at hx2) hxr fun p hp => (hxo p hp).1.ne
    have hdr : (asK t).drop (childF (asK t) fr) = c :: B := by rw [← e2, e1, List.drop_left]
    obtain ⟨pA, pB, pAB⟩ := List.pairwise_append.1 (e1 ▸ hxr)
    show colK (fun p o => collT fr to most h p.2.2 o) (fun p => p.1) to most (childF (asK t) fr) ((asK t).drop (childF (asK t) fr)) o = _
    rw [hdr, colK_law (fr := fr) (c :: B) _ o pB (fun p hp => (hxo p (by rw [e1]; simp at hp ⊢; exact .inr hp)).1.ne) (fun hi p hp e he => ?_) fun p hp o => ih (hxo p (by rw [e1]; simp at hp ⊢; exact .inr hp)).1 o]
    · have : ent (h + 1) t = entK A ++ entK (c :: B) := by
        show entK (asK t) = _
        rw [e1, entK_append]
      rw [this, colL_append, colL_none (l := entK A) fun e he => inB_lo (e3 e he)]
    · cases hp
      rw [← e2] at hi
      obtain ⟨q, hq⟩ := List.exists_mem_of_ne_nil A (by intro h0; rw [h0] at hi; simp at hi)
      exact (pAB q hq c (List.mem_cons_self ..)).2 e he
theorem rangeR_law {fr to : Bs} {most : Int} {rt : Rt} (hO : okR rt) : rangeR fr to most rt = colL fr to most.toNat (entR rt) [] := by
  by_cases hm : most ≤ 0
  · rw [rangeR_no hm, colL_full]
    have : most.toNat = 0 := by omega
    rw [this]; exact Nat.zero_le _
  · obtain ⟨k, rfl⟩ : ∃ k : Nat, most = (k : Int) := ⟨most.toNat, by omega⟩
    rw [rangeR_go hm]
    match rt, hO with
    | none, _ => rfl
    | some r, hO => exact collT_law hO []
/-! ### numbers and heights -/
/-! ### a tree, or none -/
theorem PI.rhd {f : Nat} {D : Dk} {s : Bs} {rt ct : Rt} (P : PI f D s rt ct) (h : (entR rt).length ≤ 1000000) : RHd f D s rt := by
  match rt, P.ok, P.hd, h with
  | none, _, _, _ => trivial
  | some r, hO, hH, h =>
    refine ⟨?_, hH⟩
    have h1 : 2 ^ r.1 ≤ (ent r.1 r.2.2).length := Ok.many hO
    have h2 : (ent r.1 r.2.2).length ≤ 1000000 := h
    by_cases hc : r.1 ≤ 32
    · exact hc
    · exfalso
      have : 2 ^ 32 ≤ 2 ^ r.1 := Nat.pow_le_pow_right (by decide) (by omega)
      omega
theorem getR_law {f : Nat} {D : Dk} {s : Bs} {rt ct : Rt} {key : Bs} (P : PI f D s rt ct) (hd : D.down = false) : getR key D rt = (0, lookL (entR rt) key) := by
  match rt, P.ok, P.hd with
  | none, _, _ => rfl
  | some r, hO, hH => exact getT_good hd hO hH
theorem bksR_few {rt : Rt} (hO : okR rt) : (bksR rt).length ≤ 2 * (entR rt).length := by
  match rt, hO with
  | none, _ => exact Nat.zero_le _
  | some r, hO =>
    have := Ok.few hO
    show (bks r.1 r.2.2).length + 1 ≤ 2 * (ent r.1 r.2.2).length
    omega
theorem hgt_few {rt : Rt} (hO : okR rt) : 2 ^ hgtR rt ≤ 2 * (entR rt).length + (if hgtR rt = 0 then 1 else 0) ∧ (hgtR rt = 0 ↔ entR rt = []) := by
  match rt, hO with
  | none, _ => exact ⟨by decide, fun _ => rfl, fun _ => rfl⟩
  | some r, hO =>
    have h1 : 2 ^ r.1 ≤ (ent r.1 r.2.2).length := Ok.many hO
    refine ⟨?_, fun h => absurd h (by show r.1 + 1 ≠ 0; omega), fun h => absurd h hO.ne⟩
    show 2 ^ (r.1 + 1) ≤ 2 * (ent r.1 r.2.2).length + _
    rw [Nat.pow_succ]
    omega
end Go.Proofs.YtbhladkbnleeoaaGreat

namespace Go.Proofs.YtbhladkbnleeoaaGreat
set_option maxRecDepth 100000
attribute [local irreducible] J JL At Rd Ef DNew DCar DRun Then RetQ LoopQ

end Go.Proofs.YtbhladkbnleeoaaGreat

namespace Go.Proofs.YtbhladkbnleeoaaGreat

abbrev Ws := Dk × Bs × Rt × Rt
structure WI (n N k j : Nat) (W : Ws) : Prop where
  pi : PI 3 W.1 W.2.1 W.2.2.1 W.2.2.2
  len : W.2.1.length = n
  live : W.1.lim = -1 ∧ W.1.down = false ∧ W.1.n = 303
  n300 : n ≤ 300
  ops : W.1.ops ≤ N
  pend : W.1.pend.length ≤ N
  rows : (entR W.2.2.1).length ≤ k
  old : (entR W.2.2.2).length ≤ j
theorem WI.mono {n N k j N' k' j' : Nat} {W : Ws} (h : WI n N k j W) (h1 : N ≤ N') (h2 : k ≤ k') (h3 : j ≤ j') : WI n N' k' j' W :=
  ⟨h.pi, h.len, h.live, h.n300, Nat.le_trans h.ops h1, Nat.le_trans h.pend h1, Nat.le_trans h.rows h2, Nat.le_trans h.old h3⟩
theorem nodup_len {l m : List Nat} (hn : l.Nodup) (hs : ∀ x ∈ l, x ∈ m) : l.length ≤ m.length := by
  induction l generalizing m with
  | nil => exact Nat.zero_le _
  | cons a l ih =>
    obtain ⟨h1, h2⟩ := List.nodup_cons.1 hn
    have ha := hs a (List.mem_cons_self ..)
    have := ih (m := m.erase a) h2 fun x hx => (List.mem_erase_of_ne (fun (e : x = a) => h1 (e ▸ hx))).2 (hs x (List.mem_cons_of_mem _ hx))
    rw [List.length_erase_of_mem ha] at this
    have := List.length_pos_of_mem ha
    rw [List.length_cons]
    omega
theorem fr_nz (s : Bs) : ∀ n, n ≤ s.length → frS (s.take n) + (selL (fun i => s.getD i 0 != 0) n).length = n := by
  intro n
  induction n with
  | zero => intro _; simp [frS, selL]
  | succ n ih =>
    intro hn
    have h1 := ih (by omega)
    obtain ⟨c, hc⟩ : ∃ c, s[n]? = some c := ⟨_, List.getElem?_eq_getElem (by omega)⟩
    have hg : s.getD n 0 = c := getD_of hc
    have hsel := selL_succ (fun i => s.getD i 0 != 0) n
    have h2 : frS (s.take n ++ [c]) = frS (s.take n) + if c = 0 then 1 else 0 := by
      unfold frS
      rw [List.countP_append, List.countP_singleton]
      simp
    rw [hsel, take_step hc, List.length_append, h2]
    by_cases h0 : c = 0
    · have hb : (s.getD n 0 != 0) = false := by rw [hg, h0]; rfl
      rw [hb, if_pos h0, if_neg (by decide)]
      simp only [List.length_nil]
      omega
    · have hb : (s.getD n 0 != 0) = true := by rw [hg]; simp [h0]
      rw [hb, if_neg h0, if_pos rfl]
      simp only [List.length_singleton]
      omega
theorem PI.free {f : Nat} {D : Dk} {s : Bs} {rt ct : Rt} (P : PI f D s rt ct) : s.length ≤ frS s + (bksR rt).length + (bksR ct).length := by
  have h1 := fr_nz s s.length (Nat.le_refl _)
  rw [List.take_length] at h1
  have h2 : (selL (fun i => s.getD i 0 != 0) s.length).length ≤ (bksR rt ++ bksR ct).length := by
    rw [← List.length_map (f := fun i => f + i)]
    refine nodup_len ?_ fun x hx => ?_
    · have hn : (selL (fun i => s.getD i 0 != 0) s.length).Nodup := by
        unfold selL
        exact List.Pairwise.sublist List.filter_sublist List.nodup_range
      exact List.Pairwise.map _ (fun a b h e => h (by omega)) hn
    · obtain ⟨i, hi, rfl⟩ := List.mem_map.1 hx
      obtain ⟨i1, i2⟩ := selL_mem.1 hi
      have i2 : s.getD i 0 ≠ 0 := by simpa using i2
      have h4 := P.le4 _ (getD_mem i1)
      have h5 : s.getD i 0 = 1 ∨ s.getD i 0 = 2 ∨ s.getD i 0 = 3 := by
        generalize s.getD i 0 = c at i2 h4
        have e0 : c.toNat ≠ 0 := fun e => i2 (UInt8.toNat_inj.1 e)
        have e1 : c.toNat = 1 ∨ c.toNat = 2 ∨ c.toNat = 3 := by omega
        rcases e1 with e | e | e
        · exact .inl (UInt8.toNat_inj.1 e)
        · exact .inr (.inl (UInt8.toNat_inj.1 e))
        · exact .inr (.inr (UInt8.toNat_inj.1 e))
      rcases h5 with h | h | h
      · exact List.mem_append_left _ ((P.use i i1).1 (.inl h))
      · exact List.mem_append_left _ ((P.use i i1).1 (.inr h))
      · exact List.mem_append_right _ ((P.old i i1).1 (.inr h))
  rw [List.length_append] at h2
  omega
theorem hgt_le {rt : Rt} (hO : okR rt) {k H : Nat} (h1 : (entR rt).length ≤ k) (h2 : 2 * k + 1 < 2 ^ (H + 1)) : hgtR rt ≤ H := by
  have h3 := (hgt_few hO).1
  by_cases h : hgtR rt ≤ H
  · exact h
  · exfalso
    have h4 : 2 ^ (H + 1) ≤ 2 ^ hgtR rt := Nat.pow_le_pow_right (by decide) (by omega)
    split at h3
    · rename_i h5; omega
    · omega
theorem WI.stok {n N k j : Nat} {W : Ws} (h : WI n N k j W) (hN : N ≤ 500000) : StOk ⟨W.1, W.2.1, [], []⟩ := by
  have h1 := h.len
  have h2 := h.n300
  have h3 := h.ops
  have h4 := h.pend
  have h5 := frS_le W.2.1
  exact ⟨by show W.2.1.length ≤ _; omega, by show frS W.2.1 + 0 ≤ _; omega, by show W.1.ops ≤ _ + 0; omega, by show W.1.pend.length ≤ _ + 0; omega⟩
theorem WI.isLive {n N k j : Nat} {W : Ws} (h : WI n N k j W) : Live 3 ⟨W.1, W.2.1, [], []⟩ :=
  ⟨h.live.1, h.live.2.1, by show 3 + W.2.1.length ≤ W.1.n; have := h.live.2.2; have := h.len; have := h.n300; omega⟩
/-- The world after a change. -/
def apW (W : Ws) (A : BSt × Int × Rt) : Ws := (A.1.D, apS 3 A, apR A W.2.2.1, W.2.2.2)
theorem wi_apply {n N k j : Nat} {W : Ws} {key : Bs} {mk : List It} (h : WI n N k j W) (hN : N ≤ 500000) (hk : k ≤ 1000) (hm : ∀ e ∈ mk, itOk e) (hm1 : mk.length ≤ 1) (hmk : ∀ e ∈ mk, e.1 = key) {A : BSt × Int × Rt} (hA : A = applyT 3 key mk W.2.2.1 W.1 W.2.1) :
    (A.2.1 = 0 → GiveOk 3 A.1.s A.1.gn) ∧ (∀ b ∈ A.1.tk, b ≤ 1099511627776) ∧ (A.2.1 = 0 → ∀ b ∈ A.1.gn, b ≤ 1099511627776) ∧ WI n (N + n) (k + 1) j (apW W A) ∧ (A.2.1 ≠ 0 → apS 3 A = W.2.1 ∧ apR A W.2.2.1 = W.2.2.1) ∧ (A.2.1 = 0 → entR (apR A W.2.2.1) = edS mk key (entR W.2.2.1)) ∧ (A.2.1 = 0 ∨ A.2.1 = 26 ∧ frS W.2.1 < 3 * hgtR W.2.2.1 + 1) := by
  have hrow := h.rows
  have hold := h.old
  have hR := h.pi.rhd (by omega)
  obtain ⟨a1, a2, a3, a4, a5, a6, a7, a8, a9, a10, a11⟩ := apply_pi (by decide) hm hm1 hmk h.pi hR (h.stok hN) hA
  have hl := h.isLive
  obtain ⟨l1, l2⟩ := a11.lim hl.1 hl.2.1
  refine ⟨a1, a2, a3, ⟨a4, a8.trans h.len, ⟨l1, l2, a11.n.trans h.live.2.2⟩, h.n300, ?_, ?_, ?_, hold⟩, a5, a6, a7 hl⟩
  · have := h.ops; have := h.len; show A.1.D.ops ≤ _; omega
  · have := h.pend; have := h.len; show A.1.D.pend.length ≤ _; omega
  · show (entR (apR A W.2.2.1)).length ≤ _
    by_cases h0 : A.2.1 = 0
    · rw [a6 h0]
      have := (edS_ok (l := entR W.2.2.1) (key := key) hm hm1 (by
        match W.2.2.1, h.pi.ok with
        | none, _ => intro e he; cases he
        | some r, hO => exact Ok.items hO)).2
      omega
    · rw [(a5 h0).2]; omega
theorem wi_room {n N k j : Nat} {W : Ws} (h : WI n N k j W) {c : Int} (hn : 3 * hgtR W.2.2.1 + 1 + 2 * k + 2 * j ≤ n) (hc : c = 0 ∨ c = 26 ∧ frS W.2.1 < 3 * hgtR W.2.2.1 + 1) : c = 0 := by
  rcases hc with hc | ⟨_, hc⟩
  · exact hc
  · exfalso
    have h1 := h.pi.free
    have h2 := bksR_few h.pi.ok
    have h3 := bksR_few h.pi.cok
    have := h.rows
    have := h.old
    have := h.len
    omega
/-! ### Put and Delete -/
def putC (key val : Bs) : Int := if key = [] then 4 else if 112 < key.length ∨ 360 < val.length then 5 else 0
def putL (key val : Bs) (l : List It) : List It := if putC key val = 0 then edS [(key, val)] key l else l
theorem putC_long {key val : Bs} (hk : key ≠ []) (hl : 112 < key.length ∨ 360 < val.length) : putC key val = 5 := by unfold putC; rw [if_neg hk, if_pos hl]
theorem putC_ok {key val : Bs} (hk : key ≠ []) (hl : ¬ (112 < key.length ∨ 360 < val.length)) : putC key val = 0 := by unfold putC; rw [if_neg hk, if_neg hl]
theorem put_item {key val : Bs} (hk : key ≠ []) (hl : ¬ (112 < key.length ∨ 360 < val.length)) : ∀ e ∈ [(key, val)], itOk e := fun e he => by
  obtain rfl := List.mem_singleton.1 he
  have := List.length_pos_iff.2 hk
  exact ⟨this, by show key.length ≤ 112; omega, by show val.length ≤ 360; omega⟩
def putA (key val : Bs) (W : Ws) : BSt × Int × Rt := applyT 3 key [(key, val)] W.2.2.1 W.1 W.2.1
def putW (key val : Bs) (W : Ws) : Ws := if putC key val = 0 then apW W (putA key val W) else W
def delA (key : Bs) (W : Ws) : BSt × Int × Rt := applyT 3 key [] W.2.2.1 W.1 W.2.1
def delW (key : Bs) (W : Ws) : Ws := if hasF (entR W.2.2.1) key = true then apW W (delA key W) else W
theorem put_wi {n N k j : Nat} {W : Ws} {key val : Bs} (h : WI n N k j W) (hN : N ≤ 500000) (hk : k ≤ 1000) (hn : 3 * hgtR W.2.2.1 + 1 + 2 * k + 2 * j ≤ n) : WI n (N + n) (k + 1) j (putW key val W) ∧ entR (putW key val W).2.2.1 = putL key val (entR W.2.2.1) ∧ (putC key val = 0 → (putA key val W).2.1 = 0) := by
  unfold putW putL
  by_cases hc : putC key val = 0
  · rw [if_pos hc, if_pos hc]
    have hk0 : key ≠ [] := fun e => by rw [e] at hc; exact absurd hc (show ¬ ((4 : Int) = 0) by decide)
    have hl : ¬ (112 < key.length ∨ 360 < val.length) := fun e => by rw [putC_long hk0 e] at hc; exact absurd hc (by decide)
    obtain ⟨_, _, _, a4, _, a6, a7⟩ := wi_apply h hN hk (put_item hk0 hl) (Nat.le_refl 1) (fun e he => by obtain rfl := List.mem_singleton.1 he; rfl) (A := putA key val W) rfl
    have h0 := wi_room h hn a7
    exact ⟨a4, a6 h0, fun _ => h0⟩
  · rw [if_neg hc, if_neg hc]
    exact ⟨h.mono (by omega) (by omega) (Nat.le_refl _), rfl, fun e => absurd e hc⟩
theorem del_wi {n N k j : Nat} {W : Ws} {key : Bs} (h : WI n N k j W) (hN : N ≤ 500000) (hk : k ≤ 1000) (hn : 3 * hgtR W.2.2.1 + 1 + 2 * k + 2 * j ≤ n) : WI n (N + n) (k + 1) j (delW key W) ∧ entR (delW key W).2.2.1 = edS [] key (entR W.2.2.1) ∧ (hasF (entR W.2.2.1) key = true → (delA key W).2.1 = 0) := by
  unfold delW
  by_cases hc : hasF (entR W.2.2.1) key = true
  · rw [if_pos hc]
    obtain ⟨_, _, _, a4, _, a6, a7⟩ := wi_apply h hN hk (mk := []) (key := key) (by intro e he; cases he) (Nat.zero_le 1) (by intro e he; cases he) (A := delA key W) rfl
    have h0 := wi_room h hn a7
    exact ⟨a4, a6 h0, fun _ => h0⟩
  · rw [if_neg hc]
    refine ⟨h.mono (by omega) (by omega) (Nat.le_refl _), ?_, fun e => absurd e hc⟩
    rw [edS_not (by simpa using hc)]
    simp
theorem lookL_has (l : List It) (key : Bs) : (lookL l key).isSome = hasF l key := by
  unfold lookL
  cases hasF l key <;> rfl
/-! ### a commit -/
/-- A new world. -/
def newW (n : Nat) : Ws := (newD 303, List.replicate n 0, none, none)
theorem new_wi {n : Nat} (hn : n ≤ 300) : WI n 0 0 0 (newW n) := by
  have hg : ∀ i, (List.replicate n (0 : UInt8)).getD i 0 = 0 := fun i => by
    rw [List.getD_eq_getElem?_getD, List.getElem?_replicate]
    split <;> rfl
  refine ⟨⟨trivial, trivial, List.nodup_nil, fun i _ => ?_, trivial, trivial, List.nodup_nil, fun i _ => ?_, fun c hc => ?_⟩, by simp [newW], ⟨rfl, rfl, rfl⟩, hn, Nat.le_refl _, Nat.le_refl _, Nat.le_refl _, Nat.le_refl _⟩
  · show ((List.replicate n (0 : UInt8)).getD i 0 = 1 ∨ (List.replicate n (0 : UInt8)).getD i 0 = 2) ↔ _ ∈ []
    rw [hg]
    exact ⟨fun h => absurd h (by decide), fun h => by cases h⟩
  · show ((List.replicate n (0 : UInt8)).getD i 0 = 1 ∨ (List.replicate n (0 : UInt8)).getD i 0 = 3) ↔ _ ∈ []
    rw [hg]
    exact ⟨fun h => absurd h (by decide), fun h => by cases h⟩
  · have := (List.mem_replicate.1 hc).2
    rw [this]; decide
theorem none_of {rt : Rt} (hO : okR rt) (h : entR rt = []) : rt = none := by
  match rt, hO with
  | none, _ => rfl
  | some r, hO => exact absurd h hO.ne
theorem inL12 {f : Nat} {D : Dk} {s : Bs} {rt ct : Rt} (P : PI f D s rt ct) : ∀ k, k ∈ inL s [1, 2] ↔ k < s.length ∧ f + k ∈ bksR rt := fun k => by
  unfold inL
  rw [selL_mem]
  constructor
  · rintro ⟨h1, h2⟩
    refine ⟨h1, (P.use k h1).1 ?_⟩
    unfold inP at h2
    have := of_decide_eq_true h2
    simp only [List.mem_cons, List.not_mem_nil, or_false] at this
    rcases this with h | h
    · exact .inl (UInt8.toNat_inj.1 (by show _ = 1; omega))
    · exact .inr (UInt8.toNat_inj.1 (by show _ = 2; omega))
  · rintro ⟨h1, h2⟩
    refine ⟨h1, ?_⟩
    unfold inP
    refine decide_eq_true ?_
    rcases (P.use k h1).2 h2 with h | h <;> rw [h] <;> simp
theorem inL12_none {f : Nat} {D : Dk} {s : Bs} {rt ct : Rt} (P : PI f D s rt ct) (h : rt = none) : inL s [1, 2] = [] := by
  subst h
  cases hl : inL s [1, 2] with
  | nil => rfl
  | cons k l =>
    have h1 := ((inL12 P k).1 (by rw [hl]; exact List.mem_cons_self ..)).2
    cases h1
/-! ### the example of the chapter -/
def kW1 : Ws := putW [98] [50] (newW 20)
def kW2 : Ws := putW [97] [49] kW1
def kW3 : Ws := delW [97] kW2
def kW4 : Ws := delW [98] kW3
def kL : List It := [([97], [49]), ([98], [50])]
theorem slt_ab : slt [98] [97] = false ∧ slt [97] [98] = true ∧ slt [97] [97] = false ∧ slt [98] [98] = false := by
  refine ⟨?_, ?_, slt_irrefl _, slt_irrefl _⟩ <;> rw [slt_cons] <;> rw [slt_irrefl] <;> decide
theorem k_rows : putL [98] [50] [] = [([98], [50])] ∧ putL [97] [49] [([98], [50])] = kL ∧ hasF kL [97] = true ∧ edS [] [97] kL = [([98], [50])] ∧ hasF [([98], [50])] [98] = true ∧ edS [] [98] [([98], [50])] = [] := by
  obtain ⟨h1, h2, h3, h4⟩ := slt_ab
  have c1 : putC [98] [50] = 0 := rfl
  have c2 : putC [97] [49] = 0 := rfl
  refine ⟨?_, ?_, ?_, ?_, ?_, ?_⟩ <;> simp [putL, edS, findF, hasF, kL, h1, h3, h4, c1, c2]
set_option maxRecDepth 100000 in
theorem k_all : WI 20 20 1 0 kW1 ∧ entR kW1.2.2.1 = [([98], [50])] ∧ WI 20 40 2 0 kW2 ∧ entR kW2.2.2.1 = kL ∧ WI 20 60 3 0 kW3 ∧ entR kW3.2.2.1 = [([98], [50])] ∧ WI 20 80 4 0 kW4 ∧ entR kW4.2.2.1 = [] ∧
    3 * hgtR (newW 20).2.2.1 + 1 + 2 * 0 + 2 * 0 ≤ 20 ∧ 3 * hgtR kW1.2.2.1 + 1 + 2 * 1 + 2 * 0 ≤ 20 ∧ 3 * hgtR kW2.2.2.1 + 1 + 2 * 2 + 2 * 0 ≤ 20 ∧ 3 * hgtR kW3.2.2.1 + 1 + 2 * 3 + 2 * 0 ≤ 20 := by
  obtain ⟨r1, r2, r3, r4, r5, r6⟩ := k_rows
  have w0 := new_wi (n := 20) (by decide)
  have m0 : 3 * hgtR (newW 20).2.2.1 + 1 + 2 * 0 + 2 * 0 ≤ 20 := by
    show 3 * 0 + 1 + 2 * 0 + 2 * 0 ≤ 20
    decide
  obtain ⟨w1, e1, _⟩ := put_wi (key := [98]) (val := [50]) w0 (by decide) (by decide) m0
  have e0 : entR (newW 20).2.2.1 = [] := rfl
  rw [e0, r1] at e1
  have e1 : entR kW1.2.2.1 = [([98], [50])] := e1
  have w1 : WI 20 20 1 0 kW1 := w1
  have g1 := hgt_le (H := 1) w1.pi.ok w1.rows (by decide)
  have m1 : 3 * hgtR kW1.2.2.1 + 1 + 2 * 1 + 2 * 0 ≤ 20 := by omega
  obtain ⟨w2, e2, _⟩ := put_wi (key := [97]) (val := [49]) w1 (by decide) (by decide) m1
  have e2 : entR kW2.2.2.1 = kL := by have := e2; rw [e1, r2] at this; exact this
  have w2 : WI 20 40 2 0 kW2 := w2
  have g2 := hgt_le (H := 2) w2.pi.ok w2.rows (by decide)
  have m2 : 3 * hgtR kW2.2.2.1 + 1 + 2 * 2 + 2 * 0 ≤ 20 := by omega
  obtain ⟨w3, e3, _⟩ := del_wi (key := [97]) w2 (by decide) (by decide) m2
  have e3 : entR kW3.2.2.1 = [([98], [50])] := by have := e3; rw [e2, r4] at this; exact this
  have w3 : WI 20 60 3 0 kW3 := w3
  have g3 := hgt_le (H := 2) w3.pi.ok w3.rows (by decide)
  have m3 : 3 * hgtR kW3.2.2.1 + 1 + 2 * 3 + 2 * 0 ≤ 20 := by omega
  obtain ⟨w4, e4, _⟩ := del_wi (key := [98]) w3 (by decide) (by decide) m3
  have e4 : entR kW4.2.2.1 = [] := by have := e4; rw [e3, r6] at this; exact this
  exact ⟨w1, e1, w2, e2, w3, e3, w4, e4, m0, m1, m2, m3⟩
end Go.Proofs.YtbhladkbnleeoaaGreat

namespace Go.Proofs.YtbhladkbnleeoaaGreat
set_option maxRecDepth 100000
attribute [local irreducible] J JL At Rd Ef DNew DCar DRun Then RetQ LoopQ

structure OpR where
  kind : UInt8
  ky : Bs
  vl : Bs
  long : Nat
  wide : Nat
  to : Bs
  most : Int
def opR (o : OpR) : List Value := [.int .u8 (o.kind.toNat : Int), str o.ky, str o.vl, .int .u16 (o.long : Int), .int .u16 (o.wide : Int), str o.to, .int .i64 o.most]
def OpR.ok (o : OpR) : Prop := o.long < 65536 ∧ o.wide < 65536 ∧ -9223372036854775808 ≤ o.most ∧ o.most ≤ 9223372036854775807
def growS (lim : Nat) : Nat → Bs → Bs
  | 0, s => s
  | n + 1, s => if 0 < s.length ∧ s.length < lim then growS lim n (s ++ s.take 1) else s
theorem growS_stop {lim n : Nat} {s : Bs} (h : ¬ (0 < s.length ∧ s.length < lim)) : growS lim n s = s := by
  cases n with
  | zero => rfl
  | succ n => exact if_neg h
theorem growS_go {lim n : Nat} {s : Bs} (h : 0 < s.length ∧ s.length < lim) : growS lim (n + 1) s = growS lim n (s ++ s.take 1) := if_pos h
theorem growS_le {lim M : Nat} (hM : lim ≤ M) : ∀ (n : Nat) (s : Bs), s.length ≤ M → (growS lim n s).length ≤ M := by
  intro n
  induction n with
  | zero => intro s h; exact h
  | succ n ih =>
    intro s h
    unfold growS
    split
    · refine ih _ ?_
      rw [List.length_append, List.length_take]
      omega
    · exact h
def keyF (o : OpR) : Bs := growS 113 o.long (o.ky.take 120)
theorem keyF_le (o : OpR) : (keyF o).length ≤ 120 := growS_le (by decide) _ _ (by rw [List.length_take]; omega)
set_option maxHeartbeats 400000 in
theorem key_any (o : OpR) (hok : o.ok) :
    Fn Tryz.prog 13 [.agg (opR o).toArray] [] (X := Unit) (fun _ => True) (fun _ => str (keyF o)) (fun _ => []) := by
 refine Fn.mk' (n := 34) (l := [(0, .agg (opR o).toArray)]) (fn := Tryz.f13) Tryz.func13 (by kernel_rfl) rfl rfl (by simp) rfl ?_
 intro h0 w0
 obtain ⟨ok1, ok2, ok3, ok4⟩ := hok
 refine J.sr <| JL.ef (Ef.box (t0 rfl) rfl ?_)
 intro b1
 refine JL.as Ev.c <| JL.n4 <| JL.rd ((by first | exact Rd.fld0 fld_42_1 (t1 rfl) | exact Rd.fld fld_42_1 (t1 rfl))) ?_
 refine JL.rd (Rd.ldN Tryz.isAgg9 (t0 rfl) (by repeat constructor) (by repeat constructor)) ?_
 refine JL.rd ((by first | exact Rd.fld0 fld_42_1 (t3 rfl) | exact Rd.fld fld_42_1 (t3 rfl))) ?_
 refine JL.rd (Rd.ldN Tryz.isAgg9 (t0 rfl) (by repeat constructor) (by repeat constructor)) ?_
 refine JL.rd (Rd.lenStr Tryz.runUnderlying9 (t0 rfl)) <| JL.rd (Rd.min2 (t0 rfl) Ev.c) ?_
 rw [show min (o.ky.length : Int) 120 = ((min o.ky.length 120 : Nat) : Int) by omega]
 refine JL.rd (Rd.strTo Tryz.runUnderlying9 (t4 rfl) (t0 rfl) (by first | (simp; done) | (simp; omega) | omega | (simp [*]; done) | (simp [*]; omega)) (by first | (simp; done) | (simp; omega) | omega | (simp [*]; done) | (simp [*]; omega))) ?_
 rw [Int.toNat_natCast, show o.ky.take (min o.ky.length 120) = o.ky.take 120 by rw [List.take_eq_take_iff]; omega]
 refine JL.as (t0 rfl) <| JL.n5 <| JL.as Ev.c <| JL.nb <| J.loop (X := Nat × Bs) (fun (x : Nat × Bs) => [(4, .int .i64 (x.1 : Int)), (3, str x.2)]) (K := [(2, _), (1, _)]) (fun x => [pts b1 (.cells (opR o).toArray 42)]) (fun x => x.1 ≤ o.long ∧ growS 113 (o.long - x.1) x.2 = keyF o ∧ x.2.length ≤ 120) (fun x => o.long - x.1) ((0, o.ky.take 120)) ?_ ⟨lk0.trans (by first | with_reducible rfl | (congr 1; omega) | (simp; done) | (simp [*]; done)), (lk1 rfl).trans (by first | with_reducible rfl | (congr 1; omega) | (simp; done) | (simp [*]; done)), trivial⟩ ⟨(lk9 rfl), (lk10 rfl), trivial⟩ (fun _ => Stars.sel (by repeat constructor)) ?_
 exact ⟨Nat.zero_le _, rfl, by show (o.ky.take 120).length ≤ _; rw [List.length_take]; omega⟩
 rintro ⟨i, s⟩ ρ ⟨hk, hg, hsl⟩
 simp only [cA, nA]
 dsimp only at hk hg hsl ⊢
 refine J.seq <| J.sr <| JL.mv (t0 rfl) <| JL.rd ((by first | exact Rd.fld0 fld_42_3 (t4 rfl) | exact Rd.fld fld_42_3 (t4 rfl))) ?_
 refine JL.rd (Rd.ldN Tryz.isAgg40 (t0 rfl) (by repeat constructor) (by repeat constructor)) ?_
 refine JL.rd (Rd.conv (t0 rfl) (fun w => ⟨_, Tryz.runUnderlying40 w⟩) Tryz.runUnderlying3 (w64 (by omega) (by omega))) ?_
 refine JL.rd (Rd.lss (t3 rfl) (t0 rfl)) <| JL.mv (t0 rfl) <| JL.caseD (t0 rfl) ?_ ?_
 intro hb2p hb2
 refine JL.rdG rfl (EvB (t0 rfl) hb2) rfl (Rd.move (t7 rfl)) <| JL.rdG rfl (EvB (t1 rfl) hb2) rfl (Rd.lenStr Tryz.runUnderlying9 (t0 rfl)) <| JL.rdG rfl (EvB (t2 rfl) hb2) rfl (Rd.gtr (t0 rfl) Ev.c) <| JL.rd (Rd.pickT (EvB (t3 rfl) hb2) (t0 rfl)) <| JL.mv (t0 rfl) <| JL.caseD (t0 rfl) ?_ ?_
 intro hb3p hb3
 refine JL.rdG rfl (EvB (t0 rfl) hb3) rfl (Rd.move (t12 rfl)) <| JL.rdG rfl (EvB (t1 rfl) hb3) rfl (Rd.lenStr Tryz.runUnderlying9 (t0 rfl)) <| JL.rdG rfl (EvB (t2 rfl) hb3) rfl (Rd.lss (t0 rfl) Ev.c) <| JL.rd (Rd.pickT (EvB (t3 rfl) hb3) (t0 rfl)) <| JL.n2 <| J.condD (t0 rfl) ?_ ?_
 intro hc4
 refine J.skip <| At.next <| J.seq <| J.block <| J.region <| JL.mv (t16 rfl) <| JL.mv (t17 rfl) <| JL.rd (Rd.strTo Tryz.runUnderlying9 (t0 rfl) Ev.c (by decide) (by omega)) ?_
 refine JL.rd (Rd.str_add (t2 rfl) (t0 rfl) (by first | (simp; done) | (simp; omega) | omega | (simp [*]; done) | (simp [*]; omega))) ?_
 refine JL.as (t0 rfl) <| JL.nil <| At.blkN <| At.next <| J.region <| JL.mv (t20 rfl) <| JL.rd (Rd.add (t0 rfl) Ev.c (w64 (by omega) (by omega))) ?_
 refine JL.as (t0 rfl) <| JL.nil <| At.again ((i + 1, s ++ s.take 1)) ?_ ?_ ⟨lk0.trans (by first | with_reducible rfl | (congr 1; omega) | (simp; done) | (simp [*]; done)), (lk3 rfl).trans (by first | with_reducible rfl | (congr 1; omega) | (simp; done) | (simp [*]; done)), trivial⟩ ⟨(lk25 rfl), (lk26 rfl), trivial⟩ (fun _ => Stars.sel (by repeat constructor))
 exact ⟨by show i + 1 ≤ _; omega, by rw [← hg, show o.long - i = o.long - (i + 1) + 1 by omega, growS_go ⟨by omega, by omega⟩], by show (s ++ s.take 1).length ≤ _; rw [List.length_append, List.length_take]; omega⟩
 show o.long - (i + 1) < o.long - i; omega
 intro hc4
 refine J.exit <| At.nextX <| At.loopX <| At.blkX <| At.next <| J.seq ?_
 have hfin : keyF o = s := by
   rw [← hg]
   by_cases hi : i = o.long
   · rw [hi, Nat.sub_self]; rfl
   · exact growS_stop (by omega)
 exact J.region <| JL.mv (t16 rfl) <| JL.as (t0 rfl) <| JL.nr <| At.r (()) (trivial) (ResV.one rfl (t0 rfl)) (by rw [hfin])
 intro hb3p hb3
 refine JL.skG rfl (EvB (t0 rfl) hb3) rfl <| JL.skG rfl (EvB (t1 rfl) hb3) rfl <| JL.skG rfl (EvB (t2 rfl) hb3) rfl <| JL.rd (Rd.pickF (EvB (t3 rfl) hb3) Ev.c) <| JL.n2 <| J.condF (t0 rfl) <| J.exit <| At.nextX <| At.loopX <| At.blkX <| At.next <| J.seq ?_
 have hfin : keyF o = s := by
   rw [← hg]
   by_cases hi : i = o.long
   · rw [hi, Nat.sub_self]; rfl
   · exact growS_stop (by omega)
 exact J.region <| JL.mv (t16 rfl) <| JL.as (t0 rfl) <| JL.nr <| At.r (()) (trivial) (ResV.one rfl (t0 rfl)) (by rw [hfin])
 intro hb2p hb2
 refine JL.skG rfl (EvB (t0 rfl) hb2) rfl <| JL.skG rfl (EvB (t1 rfl) hb2) rfl <| JL.skG rfl (EvB (t2 rfl) hb2) rfl <| JL.rd (Rd.pickF (EvB (t3 rfl) hb2) Ev.c) <| JL.mv (t0 rfl) <| JL.skG rfl (t0 rfl) rfl <| JL.skG rfl (t1 rfl) rfl <| JL.skG rfl (t2 rfl) rfl <| JL.rd (Rd.pickF (t3 rfl) Ev.c) <| JL.n2 <| J.condF (t0 rfl) <| J.exit <| At.nextX <| At.loopX <| At.blkX <| At.next <| J.seq ?_
 have hfin : keyF o = s := by
   rw [← hg]
   by_cases hi : i = o.long
   · rw [hi, Nat.sub_self]; rfl
   · exact growS_stop (by omega)
 exact J.region <| JL.mv (t16 rfl) <| JL.as (t0 rfl) <| JL.nr <| At.r (()) (trivial) (ResV.one rfl (t0 rfl)) (by rw [hfin])

theorem put_gen (t d m : Nat) (W : Ws) (key val : Bs) (P : PI 3 W.1 W.2.1 W.2.2.1 W.2.2.2) (hR : RHd 3 W.1 W.2.1 W.2.2.1) (hs : StOk ⟨W.1, W.2.1, [], []⟩) : Fn Tryz.prog 21 [.pointer (some ⟨t, 0, none⟩), str key, str val] [pts t (.cells [.pointer (some ⟨d, 0, none⟩), .pointer (some ⟨m, 0, none⟩), .int .i64 (rootI W.2.2.1)].toArray 68), dk d W.1, bm m 3 W.2.1] (X := Unit) (fun _ => True) (fun _ => .int .i64 (if putC key val = 0 then (putA key val W).2.1 else putC key val)) (fun _ => [pts t (.cells [.pointer (some ⟨d, 0, none⟩), .pointer (some ⟨m, 0, none⟩), .int .i64 (rootI (putW key val W).2.2.1)].toArray 68), dk d (putW key val W).1, bm m 3 (putW key val W).2.1]) := by
  by_cases hk0 : key = []
  · subst hk0
    have e : putW [] val W = W := if_neg (show ¬ ((4 : Int) = 0) by decide)
    rw [e, if_neg (show ¬ (putC [] val = 0) from show ¬ ((4 : Int) = 0) by decide)]
    have h1 := (put_short t d m (rootI W.2.2.1) val).frame [dk d W.1, bm m 3 W.2.1]
    exact h1
  · by_cases hl : 112 < key.length ∨ 360 < val.length
    · have hc := putC_long hk0 hl
      have e : putW key val W = W := if_neg (by rw [hc]; decide)
      rw [e, if_neg (by rw [hc]; decide), hc]
      have h1 := (put_long t d m (rootI W.2.2.1) key val hk0 hl).frame [dk d W.1, bm m 3 W.2.1]
      exact h1
    · have hc := putC_ok hk0 hl
      have e : putW key val W = apW W (putA key val W) := if_pos hc
      rw [e, if_pos hc]
      obtain ⟨a1, a2, a3, _⟩ := apply_pi (by decide) (put_item hk0 hl) (Nat.le_refl 1) (fun e he => by obtain rfl := List.mem_singleton.1 he; rfl) P hR hs (A := putA key val W) rfl
      have hk1 := List.length_pos_iff.2 hk0
      exact put_any t d m 3 (by decide) key val hk1 (by omega) (by omega) W.1 W.2.1 W.2.2.1 hR hs a1 a2 a3
theorem put_w (t d m n N k j : Nat) (W : Ws) (key val : Bs) (h : WI n N k j W) (hN : N ≤ 500000) (hk : k ≤ 1000) (hn : 3 * hgtR W.2.2.1 + 1 + 2 * k + 2 * j ≤ n) : Fn Tryz.prog 21 [.pointer (some ⟨t, 0, none⟩), str key, str val] [pts t (.cells [.pointer (some ⟨d, 0, none⟩), .pointer (some ⟨m, 0, none⟩), .int .i64 (rootI W.2.2.1)].toArray 68), dk d W.1, bm m 3 W.2.1] (X := Unit) (fun _ => True) (fun _ => .int .i64 (putC key val)) (fun _ => [pts t (.cells [.pointer (some ⟨d, 0, none⟩), .pointer (some ⟨m, 0, none⟩), .int .i64 (rootI (putW key val W).2.2.1)].toArray 68), dk d (putW key val W).1, bm m 3 (putW key val W).2.1]) := by
  refine (put_gen t d m W key val h.pi (h.pi.rhd (by have := h.rows; omega)) (h.stok hN)).cv (fun _ s => s) (fun _ _ => ?_) fun _ _ _ s => s
  by_cases hc : putC key val = 0
  · rw [if_pos hc, hc, (put_wi h hN hk hn).2.2 hc]
  · rw [if_neg hc]
def delQ (key : Bs) (W : Ws) : Bool := decide ((getR key W.1 W.2.2.1).1 = 0) && (getR key W.1 W.2.2.1).2.isSome
theorem del_gen (t d m : Nat) (W : Ws) (key : Bs) (P : PI 3 W.1 W.2.1 W.2.2.1 W.2.2.2) (hR : RHd 3 W.1 W.2.1 W.2.2.1) (hs : StOk ⟨W.1, W.2.1, [], []⟩) : Fn Tryz.prog 14 [.pointer (some ⟨t, 0, none⟩), str key] [pts t (.cells [.pointer (some ⟨d, 0, none⟩), .pointer (some ⟨m, 0, none⟩), .int .i64 (rootI W.2.2.1)].toArray 68), dk d W.1, bm m 3 W.2.1] (X := Unit) (fun _ => True) (fun _ => .tuple #[.bool (if delQ key W then decide ((delA key W).2.1 = 0) else false), .int .i64 (if delQ key W then (delA key W).2.1 else (getR key W.1 W.2.2.1).1)]) (fun _ => [pts t (.cells [.pointer (some ⟨d, 0, none⟩), .pointer (some ⟨m, 0, none⟩), .int .i64 (rootI (if delQ key W = true then apW W (delA key W) else W).2.2.1)].toArray 68), dk d (if delQ key W = true then apW W (delA key W) else W).1, bm m 3 (if delQ key W = true then apW W (delA key W) else W).2.1]) := by
  cases hq : delQ key W with
  | false =>
    have h1 := (delete_no t d m key W.1 W.2.2.1 hR.hr (by
      unfold delQ at hq
      by_cases h0 : (getR key W.1 W.2.2.1).1 = 0
      · right
        rw [h0] at hq
        cases hg : (getR key W.1 W.2.2.1).2 with
        | none => rfl
        | some v => rw [hg] at hq; simp at hq
      · exact .inl h0)).frame [bm m 3 W.2.1]
    exact h1
  | true =>
    unfold delQ at hq
    obtain ⟨q1, q2⟩ := Bool.and_eq_true_iff.1 hq
    obtain ⟨v, hv⟩ := Option.isSome_iff_exists.1 q2
    obtain ⟨a1, a2, a3, _⟩ := apply_pi (mk := []) (key := key) (by decide) (by intro e he; cases he) (Nat.zero_le 1) (by intro e he; cases he) P hR hs (A := delA key W) rfl
    exact delete_yes t d m 3 (by decide) key W.1 W.2.1 W.2.2.1 hR hs a1 a2 a3 v (Prod.ext (of_decide_eq_true q1) hv)
theorem del_w (t d m n N k j : Nat) (W : Ws) (key : Bs) (h : WI n N k j W) (hN : N ≤ 500000) (hk : k ≤ 1000) (hn : 3 * hgtR W.2.2.1 + 1 + 2 * k + 2 * j ≤ n) : Fn Tryz.prog 14 [.pointer (some ⟨t, 0, none⟩), str key] [pts t (.cells [.pointer (some ⟨d, 0, none⟩), .pointer (some ⟨m, 0, none⟩), .int .i64 (rootI W.2.2.1)].toArray 68), dk d W.1, bm m 3 W.2.1] (X := Unit) (fun _ => True) (fun _ => .tuple #[.bool (hasF (entR W.2.2.1) key), .int .i64 0]) (fun _ => [pts t (.cells [.pointer (some ⟨d, 0, none⟩), .pointer (some ⟨m, 0, none⟩), .int .i64 (rootI (delW key W).2.2.1)].toArray 68), dk d (delW key W).1, bm m 3 (delW key W).2.1]) := by
  have hg := getR_law (key := key) h.pi h.live.2.1
  have hq : delQ key W = hasF (entR W.2.2.1) key := by unfold delQ; rw [hg]; exact lookL_has _ _
  have e : (if delQ key W = true then apW W (delA key W) else W) = delW key W := by unfold delW; rw [hq]
  refine (del_gen t d m W key h.pi (h.pi.rhd (by have := h.rows; omega)) (h.stok hN)).cv (fun _ s => s) (fun _ _ => ?_) fun _ _ _ s => by rw [e] at s; exact s
  rw [hq]
  cases hh : hasF (entR W.2.2.1) key with
  | false => rw [if_neg (by decide), if_neg (by decide), hg]
  | true => rw [if_pos rfl, if_pos rfl, (del_wi h hN hk hn).2.2 hh]; rfl
set_option maxHeartbeats 400000 in
theorem fresh_any (n : Nat) (h1 : 1 ≤ n) (h2 : n ≤ 300) :
    Fn Tryz.prog 18 [.int .i64 (n : Int)] [] (X := Nat × Nat × Nat) (fun _ => True) (fun x => .tuple #[.agg [.pointer (some ⟨x.1, 0, none⟩), .pointer (some ⟨x.2.1, 0, none⟩), .pointer (some ⟨x.2.2, 0, none⟩)].toArray, .bool true]) (fun x => [pts x.2.2 (.cells [.pointer (some ⟨x.1, 0, none⟩), .pointer (some ⟨x.2.1, 0, none⟩), .int .i64 (-1)].toArray 68), dk x.1 (newW n).1, bm x.2.1 3 (newW n).2.1]) := by
 refine Fn.mk' (n := 51) (l := [(0, .int .i64 (n : Int))]) (fn := Tryz.f18) Tryz.func18 (by kernel_rfl) rfl rfl (by simp) rfl ?_
 intro h0 w0
 refine J.sr <| JL.ef (Ef.alloc Tryz.zeroValue28 rfl ?_)
 intro b1
 refine JL.as Ev.c <| JL.n4 <| JL.ef (Ef.call (.cons Ev.c .nil) (new_ok 303 (by decide) (by decide)) (by repeat constructor) ?_)
 rintro d -
 simp only [cA, nA]
 refine JL.mv (t0 rfl) <| JL.e (t0 rfl) <| JL.e (t1 rfl) <| JL.as (t1 rfl) <| JL.as (t1 rfl) <| JL.n4 <| JL.mv (t8 rfl) <| JL.ef (Ef.call (.cons Ev.c (.cons (t0 rfl) .nil)) (mnew_any 3 n (by decide) h1 (by omega)) (by repeat constructor) ?_)
 rintro m -
 simp only [cA, nA]
 refine JL.mv (t0 rfl) <| JL.e (t0 rfl) <| JL.e (t1 rfl) <| JL.as (t1 rfl) <| JL.as (t1 rfl) <| JL.n4 <| JL.mv (t8 rfl) <| JL.mv (t2 rfl) <| JL.ef (Ef.call (.cons (t1 rfl) (.cons (t0 rfl) .nil)) (tnew_any d m) (by repeat constructor) ?_)
 rintro t -
 simp only [cA, nA]
 refine JL.mv (t0 rfl) <| JL.e (t0 rfl) <| JL.e (t1 rfl) <| JL.as (t1 rfl) <| JL.as (t1 rfl) <| JL.n4 <| JL.mv (t16 rfl) <| JL.mv (t10 rfl) <| JL.mv (t3 rfl) ?_
 refine JL.rd (Rd.buildS (.cons (t2 rfl) (.cons (t1 rfl) (.cons (t0 rfl) .nil))) bld_28 (by repeat (first | exact FillN.nil | apply FillN.one rfl rfl (by repeat constructor)))) ?_
 refine JL.mv (t19 rfl) <| JL.rd (Rd.eql (t0 rfl) Ev.c) <| JL.mv (t0 rfl) <| JL.rdG rfl (EvB (t0 rfl) rfl) rfl (Rd.move (t15 rfl)) <| JL.rdG rfl (EvB (t1 rfl) rfl) rfl (Rd.eql (t0 rfl) Ev.c) <| JL.rd (Rd.pickT (EvB (t2 rfl) rfl) (t0 rfl)) <| JL.mv (t0 rfl) <| JL.rdG rfl (EvB (t0 rfl) rfl) rfl (Rd.move (t11 rfl)) <| JL.rdG rfl (EvB (t1 rfl) rfl) rfl (Rd.eql (t0 rfl) Ev.c) <| JL.rd (Rd.pickT (EvB (t2 rfl) rfl) (t0 rfl)) <| JL.mv (t0 rfl) <| JL.rdG rfl (EvB (t0 rfl) rfl) rfl (Rd.move (t31 rfl)) <| JL.rdG rfl (EvB (t1 rfl) rfl) rfl (Rd.neqNil (t0 rfl) Tryz.runUnderlying24) <| JL.rd (Rd.pickT (EvB (t2 rfl) rfl) (t0 rfl)) <| JL.mv (t0 rfl) <| JL.rdG rfl (EvB (t0 rfl) rfl) rfl (Rd.move (t28 rfl)) <| JL.rdG rfl (EvB (t1 rfl) rfl) rfl (Rd.neqNil (t0 rfl) Tryz.runUnderlying25) <| JL.rd (Rd.pickT (EvB (t2 rfl) rfl) (t0 rfl)) <| JL.live (K := [(46, _), (28, _), (8, _), (3, _), (2, _)]) ⟨lk0, (lk18 rfl), (lk23 rfl), (lk43 rfl), (lk44 rfl), trivial⟩ ?_
 intro ρ2
 refine JL.mv (t0 rfl) <| JL.rdG rfl (EvB (t0 rfl) rfl) rfl (Rd.move (t3 rfl)) <| JL.rdG rfl (EvB (t1 rfl) rfl) rfl (Rd.neqNil (t0 rfl) Tryz.runUnderlying26) <| JL.rd (Rd.pickT (EvB (t2 rfl) rfl) (t0 rfl)) <| JL.ef0 (Ef.stB Tryz.sizeOf28 (t8 rfl) (t5 rfl) (by repeat constructor) (by repeat constructor) (by first | rfl | assumption | simp_all) (by first | rfl | assumption | simp_all) (by first | exact bv_one _ | exact cons_one rfl (bv_one _) | (simp [Value.oneCell']; done) | (simp [Value.oneCell', str]; done)) (by decide) ?_)
 exact JL.as (t0 rfl) <| JL.nr <| At.r ((d, m, t)) (trivial) (ResV.many (rs := [.cell 2 28, .tmp 3]) rfl (.agg Tryz.isAgg28 Tryz.sizeOf28 (t9 rfl) (by repeat constructor) (by first | rfl | assumption | simp_all) (.tmp (t0 rfl) .nil)) (by simp)) rfl
theorem Rd.eqlS {P : Program} {C : Cx} {hs : List Assn} {ρ : Env} {d : Option Tmp} {ty : TypeId} {pos : String} {af : Array Edge} {g : Option (Nat × Bool)} {x y : Operand} {t t' : TypeId} {a b : List Value} {r : Bool} (h1 : Ev C.n ρ x (.agg a.toArray)) (h2 : Ev C.n ρ y (.agg b.toArray)) (hg : P.eqGuardType P.depth t = false) (he : EqAt P 10000 t (.agg a.toArray) (.agg b.toArray) r) :
    Rd P C hs ρ ⟨d, .binOp .eql t x y t', ty, pos, af, g⟩ (.bool r) :=
  Rd.cmp h1 h2 (fun w => run_eqGuardA hg w) fun w _ => by
    show (do pure (Value.bool (← Op.equalIn 10000 t _ _)) : Sem Value).run P w = _
    rw [Sem.run_bind, he w]; rfl
theorem eqgI : Tryz.prog.eqGuardType Tryz.prog.depth 64 = false := by kernel_rfl
theorem stoodI : Tryz.prog.stoodInHeld 64 = false := by kernel_rfl
theorem eqI (p q : It) : EqAt Tryz.prog 10000 64 (.agg [str p.1, str p.2].toArray) (.agg [str q.1, str q.2].toArray) (decide (p.1 = q.1) && decide (p.2 = q.2)) :=
  EqAt.s2 (P := Tryz.prog) (k := 9999) (xs := [str p.1, str p.2].toArray) (ys := [str q.1, str q.2].toArray) Tryz.runUnderlying64 stoodI (by decide) (by decide) (x1 := str p.1) (y1 := str q.1) (x2 := str p.2) (y2 := str q.2)
    (fun w => by simp only [part, Sem.run_bind, Tryz.isAgg9 w, Result.andThen]; rfl) (fun w => by simp only [part, Sem.run_bind, Tryz.isAgg9 w, Result.andThen]; rfl)
    (fun w => by simp only [part, Sem.run_bind, Tryz.isAgg9 w, Result.andThen]; rfl) (fun w => by simp only [part, Sem.run_bind, Tryz.isAgg9 w, Result.andThen]; rfl)
    (EqAt.strs Tryz.runUnderlying9 _ _) (EqAt.strs Tryz.runUnderlying9 _ _)
theorem eqI1 : EqAt Tryz.prog 10000 64 (.agg [str [97], str [49]].toArray) (.agg [str [97], str [49]].toArray) true := eqI ([97], [49]) ([97], [49])

set_option maxHeartbeats 1000000 in
theorem known_any  :
    Fn Tryz.prog 6 [] [] (X := Unit) (fun _ => True) (fun _ => .bool true) (fun _ => []) := by
 refine Fn.mk' (n := 86) (l := []) (fn := Tryz.f6) Tryz.func6 (by kernel_rfl) rfl rfl (by simp) rfl ?_
 intro h0 w0
 obtain ⟨w1, e1, w2, e2, w3, e3, w4, e4, m0, m1, m2, m3⟩ := k_all
 obtain ⟨k1, k2, k3, k4, k5, k6⟩ := k_rows
 have hn4 := none_of w4.pi.ok e4
 have hu4 := inL12_none w4.pi hn4
 have hr9 : rangeR [] [] 9 kW2.2.2.1 = kL := by rw [rangeR_law w2.pi.ok, e2, colL_every (fun e _ => inB_all e) (by decide)]; rfl
 have hx0 : (kL.map itc)[(0 : Int).toNat]? = some [str [97], str [49]] := rfl
 have hkl : kL.length = 2 := rfl
 refine J.sr <| JL.as Ev.c <| JL.n4 <| JL.ef (Ef.call (.cons Ev.c .nil) (fresh_any 20 (by decide) (by decide)) (by repeat constructor) ?_)
 rintro ⟨d, m, t⟩ -
 simp only [cA, nA]
 refine JL.mv (t0 rfl) <| JL.e (t0 rfl) <| JL.e (t1 rfl) <| JL.ef (Ef.alloc Tryz.zeroValue28 rfl ?_)
 intro b1
 refine JL.ef0 (Ef.stB Tryz.sizeOf28 (t0 rfl) (t2 rfl) (by repeat constructor) (by repeat constructor) (by first | rfl | assumption | simp_all) (by first | rfl | assumption | simp_all) (by first | exact bv_one _ | exact cons_one rfl (bv_one _) | (simp [Value.oneCell']; done) | (simp [Value.oneCell', str]; done)) (by decide) ?_)
 refine JL.as (t1 rfl) <| JL.n5 <| JL.mv (t0 rfl) <| JL.rd (Rd.not (EvB (t0 rfl) rfl)) <| JL.mv (t0 rfl) <| JL.rdG rfl (EvB (t0 rfl) rfl) rfl ((by first | exact Rd.fld0 fld_28_2 (t4 rfl) | exact Rd.fld fld_28_2 (t4 rfl))) ?_
 refine JL.rdG rfl (EvB (t1 rfl) rfl) rfl (Rd.ldN Tryz.isAgg26 (t0 rfl) (by repeat constructor) (by repeat constructor)) ?_
 refine JL.efG rfl (EvB (t2 rfl) rfl) rfl (Ef.call (.cons (t0 rfl) (.cons Ev.c (.cons Ev.c .nil))) (put_w t d m 20 0 0 0 (newW 20) [98] [50] (new_wi (by decide)) (by decide) (by decide) m0) (by repeat constructor) ?_)
 rintro - -
 rw [show putC [98] [50] = 0 from rfl, show putW [98] [50] (newW 20) = kW1 from rfl]
 simp only [cA, nA]
 refine JL.rdG rfl (EvB (t3 rfl) rfl) rfl (Rd.neq (t0 rfl) Ev.c) <| JL.rd (Rd.pickF (EvB (t4 rfl) rfl) (t0 rfl)) <| JL.mv (t0 rfl) <| JL.rdG rfl (EvB (t0 rfl) rfl) rfl ((by first | exact Rd.fld0 fld_28_2 (t10 rfl) | exact Rd.fld fld_28_2 (t10 rfl))) ?_
 refine JL.rdG rfl (EvB (t1 rfl) rfl) rfl (Rd.ldN Tryz.isAgg26 (t0 rfl) (by repeat constructor) (by repeat constructor)) ?_
 refine JL.efG rfl (EvB (t2 rfl) rfl) rfl (Ef.call (.cons (t0 rfl) (.cons Ev.c (.cons Ev.c .nil))) (put_w t d m 20 20 1 0 kW1 [97] [49] w1 (by decide) (by decide) m1) (by repeat constructor) ?_)
 rintro - -
 rw [show putC [97] [49] = 0 from rfl, show putW [97] [49] kW1 = kW2 from rfl]
 simp only [cA, nA]
 refine JL.rdG rfl (EvB (t3 rfl) rfl) rfl (Rd.neq (t0 rfl) Ev.c) <| JL.rd (Rd.pickF (EvB (t4 rfl) rfl) (t0 rfl)) <| JL.n2 <| J.condF (EvB (t0 rfl) rfl) <| J.k4 <| JL.rd ((by first | exact Rd.fld0 fld_28_2 (t15 rfl) | exact Rd.fld fld_28_2 (t15 rfl))) ?_
 refine JL.rd (Rd.ldN Tryz.isAgg26 (t0 rfl) (by repeat constructor) (by repeat constructor)) ?_
 refine JL.ef (Ef.call (.cons (t0 rfl) (.cons Ev.c (.cons Ev.c (.cons Ev.c .nil)))) (range_any t d m kW2.1 3 kW2.2.1 kW2.2.2.1 [] [] 9 w2.live.2.1 (w2.pi.rhd (by rw [e2]; decide)) (by rw [e2]; decide)) (by repeat constructor) ?_)
 rintro ⟨ra, rc⟩ -
 rw [hr9]
 simp only [cA, nA]
 refine JL.mv (t0 rfl) <| JL.e (t0 rfl) <| JL.e (t1 rfl) <| JL.as (t1 rfl) <| JL.as (t1 rfl) <| JL.ns <| J.live (K := [(4, _), (3, _), (1, _), (0, _)]) ⟨lk0, (lk1 rfl), (lk23 rfl), (lk28 rfl), trivial⟩ ?_
 intro ρ2
 refine J.region <| JL.rd ((by first | exact Rd.fld0 fld_28_2 (t2 rfl) | exact Rd.fld fld_28_2 (t2 rfl))) ?_
 refine JL.rd (Rd.ldN Tryz.isAgg26 (t0 rfl) (by repeat constructor) (by repeat constructor)) ?_
 refine JL.ef (Ef.call (.cons (t0 rfl) (.cons Ev.c .nil)) (del_w t d m 20 40 2 0 kW2 [97] w2 (by decide) (by decide) m2) (by repeat constructor) ?_)
 rintro - -
 rw [e2, k3, show delW [97] kW2 = kW3 from rfl]
 simp only [cA, nA]
 refine JL.mv (t0 rfl) <| JL.e (t0 rfl) <| JL.e (t1 rfl) <| JL.as (t1 rfl) <| JL.as (t1 rfl) <| JL.n4 <| JL.rd ((by first | exact Rd.fld0 fld_28_2 (t10 rfl) | exact Rd.fld fld_28_2 (t10 rfl))) ?_
 refine JL.rd (Rd.ldN Tryz.isAgg26 (t0 rfl) (by repeat constructor) (by repeat constructor)) ?_
 refine JL.ef (Ef.call (.cons (t0 rfl) (.cons Ev.c .nil)) (del_w t d m 20 60 3 0 kW3 [98] w3 (by decide) (by decide) m3) (by repeat constructor) ?_)
 rintro - -
 rw [e3, k5, show delW [98] kW3 = kW4 from rfl]
 simp only [cA, nA]
 refine JL.mv (t0 rfl) <| JL.e (t0 rfl) <| JL.e (t1 rfl) <| JL.as (t1 rfl) <| JL.as (t1 rfl) <| JL.n4 <| JL.mv (t16 rfl) <| JL.rd (Rd.eql (t0 rfl) Ev.c) <| JL.mv (t0 rfl) <| JL.rdG rfl (EvB (t0 rfl) rfl) rfl (Rd.move (t20 rfl)) <| JL.rdG rfl (EvB (t1 rfl) rfl) rfl (Rd.len Tryz.runUnderlying48 (t0 rfl)) <| JL.rdG rfl (EvB (t2 rfl) rfl) rfl (Rd.eql (t0 rfl) Ev.c) <| JL.rd (Rd.pickT (EvB (t3 rfl) rfl) (t0 rfl)) <| JL.mv (t0 rfl) <| JL.rdG rfl (EvB (t0 rfl) rfl) rfl (Rd.move (t25 rfl)) <| JL.rdG rfl (EvB (t1 rfl) rfl) rfl (Rd.sIdx Tryz.runUnderlying48 Tryz.sizeOf64 (t0 rfl) Ev.c (Src.i (by repeat constructor)) (by first | (simp; done) | (simp; omega) | omega | (simp [*]; done) | (simp [*]; omega)) (by omega) (by omega)) ?_
 refine JL.rdG rfl (EvB (t2 rfl) rfl) rfl (Rd.sLdA Tryz.isAgg64 Tryz.sizeOf64 (t0 rfl) (Src.i (by repeat constructor)) hx0) ?_
 refine JL.rdG rfl (EvB (t3 rfl) rfl) rfl (Rd.buildS (.cons Ev.c (.cons Ev.c .nil)) bld_64 (by repeat (first | exact FillN.nil | apply FillN.one rfl rfl (by repeat constructor)))) ?_
 refine JL.rdG rfl (EvB (t4 rfl) rfl) rfl (Rd.eqlS (a := [str [97], str [49]]) (b := [str [97], str [49]]) (t1 rfl) (t0 rfl) eqgI eqI1) <| JL.rd (Rd.pickT (EvB (t5 rfl) rfl) (t0 rfl)) <| JL.mv (t0 rfl) <| JL.rdG rfl (EvB (t0 rfl) rfl) rfl (Rd.move (t23 rfl)) <| JL.rdG rfl (EvB (t1 rfl) rfl) rfl (Rd.eql (t0 rfl) Ev.c) <| JL.rd (Rd.pickT (EvB (t2 rfl) rfl) (t0 rfl)) <| JL.mv (t0 rfl) <| JL.rdG rfl (EvB (t0 rfl) rfl) rfl (Rd.move (t28 rfl)) <| JL.rd (Rd.pickT (EvB (t1 rfl) rfl) (t0 rfl)) <| JL.mv (t0 rfl) <| JL.rdG rfl (EvB (t0 rfl) rfl) rfl (Rd.move (t22 rfl)) <| JL.rdG rfl (EvB (t1 rfl) rfl) rfl (Rd.eql (t0 rfl) Ev.c) <| JL.rd (Rd.pickT (EvB (t2 rfl) rfl) (t0 rfl)) <| JL.mv (t0 rfl) <| JL.live (K := [(70, _), (7, _), (1, _), (0, _)]) ⟨lk0, (lk27 rfl), (lk44 rfl), (lk45 rfl), trivial⟩ ?_
 intro ρ3
 refine JL.rdG rfl (EvB (t0 rfl) rfl) rfl (Rd.move (t1 rfl)) <| JL.rd (Rd.pickT (EvB (t1 rfl) rfl) (t0 rfl)) <| JL.mv (t0 rfl) <| JL.rdG rfl (EvB (t0 rfl) rfl) rfl ((by first | exact Rd.fld0 fld_28_2 (t5 rfl) | exact Rd.fld fld_28_2 (t5 rfl))) ?_
 refine JL.rdG rfl (EvB (t1 rfl) rfl) rfl (Rd.ldN Tryz.isAgg26 (t0 rfl) (by repeat constructor) (by repeat constructor)) ?_
 refine JL.efG rfl (EvB (t2 rfl) rfl) rfl (Ef.call (.cons (t0 rfl) .nil) (root_any t d m (rootI kW4.2.2.1)) (by repeat constructor) ?_)
 rintro - -
 rw [show rootI kW4.2.2.1 = -1 by rw [hn4]; rfl]
 simp only [cA, nA]
 refine JL.rdG rfl (EvB (t3 rfl) rfl) rfl (Rd.eql (t0 rfl) Ev.c) <| JL.rd (Rd.pickT (EvB (t4 rfl) rfl) (t0 rfl)) <| JL.mv (t0 rfl) <| JL.rdG rfl (EvB (t0 rfl) rfl) rfl ((by first | exact Rd.fld0 fld_28_1 (t11 rfl) | exact Rd.fld fld_28_1 (t11 rfl))) ?_
 refine JL.rdG rfl (EvB (t1 rfl) rfl) rfl (Rd.ldN Tryz.isAgg25 (t0 rfl) (by repeat constructor) (by repeat constructor)) ?_
 refine JL.efG rfl (EvB (t2 rfl) rfl) rfl (Ef.call (.cons (t0 rfl) .nil) (mused_any m 3 kW4.2.1 (by rw [w4.len]; decide)) (by repeat constructor) ?_)
 rintro ⟨ua, uc⟩ -
 rw [hu4]
 simp only [cA, nA]
 exact JL.rdG rfl (EvB (t3 rfl) rfl) rfl (Rd.len Tryz.runUnderlying34 (t0 rfl)) <| JL.rdG rfl (EvB (t4 rfl) rfl) rfl (Rd.eql (t0 rfl) Ev.c) <| JL.rd (Rd.pickT (EvB (t5 rfl) rfl) (t0 rfl)) <| JL.as (t0 rfl) <| JL.nr <| At.r (()) (trivial) (ResV.one rfl (t0 rfl)) rfl
set_option maxHeartbeats 400000 in
theorem get_nilt (key : Bs) :
    Fn Tryz.prog 12 [.pointer none, str key] [] (X := Unit) (fun _ => True) (fun _ => .tuple #[str [], .bool false, .int .i64 1]) (fun _ => []) := by
 refine Fn.mk' (n := 57) (l := [(0, .pointer none), (1, str key)]) (fn := Tryz.f12) Tryz.func12 (by kernel_rfl) rfl rfl (by simp) rfl ?_
 intro h0 w0
 exact J.sr <| JL.as Ev.c <| JL.as Ev.c <| JL.as Ev.c <| JL.n5 <| JL.mv (t3 rfl) <| JL.rd (Rd.eqlNil (t0 rfl) Tryz.runUnderlying26) <| JL.n2 <| J.condT (EvB (t0 rfl) rfl) <| J.sr <| JL.as Ev.c <| JL.as Ev.c <| JL.as Ev.c <| JL.nr <| At.nextR <| At.r (()) (trivial) (ResV.three rfl (t2 rfl) (t1 rfl) (t0 rfl)) rfl

set_option maxHeartbeats 400000 in
theorem del_nilt (key : Bs) :
    Fn Tryz.prog 14 [.pointer none, str key] [] (X := Unit) (fun _ => True) (fun _ => .tuple #[.bool false, .int .i64 1]) (fun _ => []) := by
 refine Fn.mk' (n := 30) (l := [(0, .pointer none), (1, str key)]) (fn := Tryz.f14) Tryz.func14 (by kernel_rfl) rfl rfl (by simp) rfl ?_
 intro h0 w0
 refine J.sr <| JL.ef (Ef.box (t1 rfl) rfl ?_)
 intro b1
 refine JL.as Ev.c <| JL.as Ev.c <| JL.n4 <| JL.mv (t3 rfl) <| JL.rd (Rd.ldN Tryz.isAgg9 (t3 rfl) (by repeat constructor) (by repeat constructor)) ?_
 refine JL.ef (Ef.call (.cons (t1 rfl) (.cons (t0 rfl) .nil)) (get_nilt key) (by repeat constructor) ?_)
 rintro - -
 simp only [nA]
 exact JL.mv (t0 rfl) <| JL.e (t0 rfl) <| JL.e (t1 rfl) <| JL.e (t2 rfl) <| JL.as (t2 rfl) <| JL.as (t2 rfl) <| JL.as (t2 rfl) <| JL.n5 <| JL.mv (t0 rfl) <| JL.rd (Rd.neq (t0 rfl) Ev.c) <| JL.mv (t0 rfl) <| JL.skG rfl (EvB (t0 rfl) rfl) rfl <| JL.skG rfl (EvB (t1 rfl) rfl) rfl <| JL.rd (Rd.pickT (EvB (t2 rfl) rfl) Ev.c) <| JL.n2 <| J.condT (t0 rfl) <| J.sr <| JL.mv (t6 rfl) <| JL.as Ev.c <| JL.as (t1 rfl) <| JL.nr <| At.nextR <| At.r (()) (trivial) (ResV.two rfl (t1 rfl) (t0 rfl)) rfl

set_option maxHeartbeats 400000 in
theorem range_nilt (fr to : Bs) (most : Int) :
    Fn Tryz.prog 15 [.pointer none, str fr, str to, .int .i64 most] [] (X := Unit) (fun _ => True) (fun _ => .tuple #[.slice none 0 0, .int .i64 1]) (fun _ => []) := by
 refine Fn.mk' (n := 32) (l := [(0, .pointer none), (1, str fr), (2, str to), (3, .int .i64 most)]) (fn := Tryz.f15) Tryz.func15 (by kernel_rfl) rfl rfl (by simp) rfl ?_
 intro h0 w0
 exact J.sr <| JL.as Ev.c <| JL.as Ev.c <| JL.n5 <| JL.mv (t2 rfl) <| JL.rd (Rd.eqlNil (t0 rfl) Tryz.runUnderlying26) <| JL.n2 <| J.condT (EvB (t0 rfl) rfl) <| J.sr <| JL.as Ev.c <| JL.as Ev.c <| JL.nr <| At.nextR <| At.r (()) (trivial) (ResV.two rfl (t1 rfl) (t0 rfl)) rfl

set_option maxHeartbeats 400000 in
theorem len_nilt  :
    Fn Tryz.prog 16 [.pointer none] [] (X := Unit) (fun _ => True) (fun _ => .tuple #[.int .i64 0, .int .i64 1]) (fun _ => []) := by
 refine Fn.mk' (n := 19) (l := [(0, .pointer none)]) (fn := Tryz.f16) Tryz.func16 (by kernel_rfl) rfl rfl (by simp) rfl ?_
 intro h0 w0
 exact J.sr <| JL.as Ev.c <| JL.as Ev.c <| JL.n5 <| JL.mv (t2 rfl) <| JL.rd (Rd.eqlNil (t0 rfl) Tryz.runUnderlying26) <| JL.n2 <| J.condT (EvB (t0 rfl) rfl) <| J.sr <| JL.as Ev.c <| JL.as Ev.c <| JL.nr <| At.nextR <| At.r (()) (trivial) (ResV.two rfl (t1 rfl) (t0 rfl)) rfl

set_option maxHeartbeats 400000 in
theorem height_nilt  :
    Fn Tryz.prog 17 [.pointer none] [] (X := Unit) (fun _ => True) (fun _ => .tuple #[.int .i64 0, .int .i64 1]) (fun _ => []) := by
 refine Fn.mk' (n := 19) (l := [(0, .pointer none)]) (fn := Tryz.f17) Tryz.func17 (by kernel_rfl) rfl rfl (by simp) rfl ?_
 intro h0 w0
 exact J.sr <| JL.as Ev.c <| JL.as Ev.c <| JL.n5 <| JL.mv (t2 rfl) <| JL.rd (Rd.eqlNil (t0 rfl) Tryz.runUnderlying26) <| JL.n2 <| J.condT (EvB (t0 rfl) rfl) <| J.sr <| JL.as Ev.c <| JL.as Ev.c <| JL.nr <| At.nextR <| At.r (()) (trivial) (ResV.two rfl (t1 rfl) (t0 rfl)) rfl

set_option maxHeartbeats 400000 in
theorem blocks_nilt  :
    Fn Tryz.prog 9 [.pointer none] [] (X := Unit) (fun _ => True) (fun _ => .tuple #[.slice none 0 0, .int .i64 1]) (fun _ => []) := by
 refine Fn.mk' (n := 21) (l := [(0, .pointer none)]) (fn := Tryz.f9) Tryz.func9 (by kernel_rfl) rfl rfl (by simp) rfl ?_
 intro h0 w0
 exact J.sr <| JL.as Ev.c <| JL.as Ev.c <| JL.n5 <| JL.mv (t2 rfl) <| JL.rd (Rd.eqlNil (t0 rfl) Tryz.runUnderlying26) <| JL.n2 <| J.condT (EvB (t0 rfl) rfl) <| J.sr <| JL.as Ev.c <| JL.as Ev.c <| JL.nr <| At.nextR <| At.r (()) (trivial) (ResV.two rfl (t1 rfl) (t0 rfl)) rfl

set_option maxHeartbeats 400000 in
theorem root_nilt  :
    Fn Tryz.prog 11 [.pointer none] [] (X := Unit) (fun _ => True) (fun _ => .int .i64 (-1)) (fun _ => []) := by
 refine Fn.mk' (n := 9) (l := [(0, .pointer none)]) (fn := Tryz.f11) Tryz.func11 (by kernel_rfl) rfl rfl (by simp) rfl ?_
 intro h0 w0
 exact J.sr <| JL.as Ev.c <| JL.n5 <| JL.mv (t1 rfl) <| JL.rd (Rd.eqlNil (t0 rfl) Tryz.runUnderlying26) <| JL.n2 <| J.condT (EvB (t0 rfl) rfl) <| J.sr <| JL.as Ev.c <| JL.nr <| At.nextR <| At.r (()) (trivial) (ResV.one rfl (t0 rfl)) rfl

set_option maxHeartbeats 400000 in
theorem check_nilt  :
    Fn Tryz.prog 8 [.pointer none] [] (X := Unit) (fun _ => True) (fun _ => .int .i64 1) (fun _ => []) := by
 refine Fn.mk' (n := 21) (l := [(0, .pointer none)]) (fn := Tryz.f8) Tryz.func8 (by kernel_rfl) rfl rfl (by simp) rfl ?_
 intro h0 w0
 exact J.sr <| JL.as Ev.c <| JL.ns <| J.block <| J.sr <| JL.mv (t1 rfl) <| JL.rd (Rd.eqlNil (t0 rfl) Tryz.runUnderlying26) <| JL.as (t0 rfl) <| JL.n2 <| J.condT (EvB (t0 rfl) rfl) <| J.sr <| JL.as Ev.c <| JL.nr <| At.blkR <| At.nextR <| At.r (()) (trivial) (ResV.one rfl (t0 rfl)) rfl

set_option maxHeartbeats 400000 in
theorem put_nilt (key val : Bs) :
    Fn Tryz.prog 21 [.pointer none, str key, str val] [] (X := Unit) (fun _ => True) (fun _ => .int .i64 1) (fun _ => []) := by
 refine Fn.mk' (n := 26) (l := [(0, .pointer none), (1, str key), (2, str val)]) (fn := Tryz.f21) Tryz.func21 (by kernel_rfl) rfl rfl (by simp) rfl ?_
 intro h0 w0
 refine J.sr <| JL.ef (Ef.box (t1 rfl) rfl ?_)
 intro b1
 refine JL.ef (Ef.box (t3 rfl) rfl ?_)
 intro b2
 exact JL.as Ev.c <| JL.ns <| J.block <| J.sr <| JL.mv (t3 rfl) <| JL.rd (Rd.eqlNil (t0 rfl) Tryz.runUnderlying26) <| JL.as (t0 rfl) <| JL.n2 <| J.condT (EvB (t0 rfl) rfl) <| J.sr <| JL.as Ev.c <| JL.nr <| At.blkR <| At.nextR <| At.r (()) (trivial) (ResV.one rfl (t0 rfl)) rfl

set_option maxHeartbeats 400000 in
theorem tl_nild (m : Nat) (root : Int) :
    Fn Tryz.prog 20 [.pointer none, .pointer (some ⟨m, 0, none⟩), .int .i64 root] [] (X := Unit) (fun _ => True) (fun _ => .tuple #[.pointer none, .int .i64 1]) (fun _ => []) := by
 refine Fn.mk' (n := 39) (l := [(0, .pointer none), (1, .pointer (some ⟨m, 0, none⟩)), (2, .int .i64 root)]) (fn := Tryz.f20) Tryz.func20 (by kernel_rfl) rfl rfl (by simp) rfl ?_
 intro h0 w0
 exact J.sr <| JL.as Ev.c <| JL.as Ev.c <| JL.n5 <| JL.mv (t2 rfl) <| JL.rd (Rd.eqlNil (t0 rfl) Tryz.runUnderlying24) <| JL.mv (t0 rfl) <| JL.skG rfl (EvB (t0 rfl) rfl) rfl <| JL.skG rfl (EvB (t1 rfl) rfl) rfl <| JL.rd (Rd.pickT (EvB (t2 rfl) rfl) Ev.c) <| JL.n2 <| J.condT (t0 rfl) <| J.sr <| JL.as Ev.c <| JL.as Ev.c <| JL.nr <| At.nextR <| At.r (()) (trivial) (ResV.two rfl (t1 rfl) (t0 rfl)) rfl

set_option maxHeartbeats 400000 in
theorem tl_nilm (d : Nat) (root : Int) :
    Fn Tryz.prog 20 [.pointer (some ⟨d, 0, none⟩), .pointer none, .int .i64 root] [] (X := Unit) (fun _ => True) (fun _ => .tuple #[.pointer none, .int .i64 1]) (fun _ => []) := by
 refine Fn.mk' (n := 39) (l := [(0, .pointer (some ⟨d, 0, none⟩)), (1, .pointer none), (2, .int .i64 root)]) (fn := Tryz.f20) Tryz.func20 (by kernel_rfl) rfl rfl (by simp) rfl ?_
 intro h0 w0
 exact J.sr <| JL.as Ev.c <| JL.as Ev.c <| JL.n5 <| JL.mv (t2 rfl) <| JL.rd (Rd.eqlNil (t0 rfl) Tryz.runUnderlying24) <| JL.mv (t0 rfl) <| JL.rdG rfl (EvB (t0 rfl) rfl) rfl (Rd.move (t6 rfl)) <| JL.rdG rfl (EvB (t1 rfl) rfl) rfl (Rd.eqlNil (t0 rfl) Tryz.runUnderlying25) <| JL.rd (Rd.pickF (EvB (t2 rfl) rfl) (t0 rfl)) <| JL.n2 <| J.condT (EvB (t0 rfl) rfl) <| J.sr <| JL.as Ev.c <| JL.as Ev.c <| JL.nr <| At.nextR <| At.r (()) (trivial) (ResV.two rfl (t1 rfl) (t0 rfl)) rfl

set_option maxHeartbeats 400000 in
theorem tn_nild (m : Nat) :
    Fn Tryz.prog 19 [.pointer none, .pointer (some ⟨m, 0, none⟩)] [] (X := Unit) (fun _ => True) (fun _ => .tuple #[.pointer none, .int .i64 1]) (fun _ => []) := by
 refine Fn.mk' (n := 11) (l := [(0, .pointer none), (1, .pointer (some ⟨m, 0, none⟩))]) (fn := Tryz.f19) Tryz.func19 (by kernel_rfl) rfl rfl (by simp) rfl ?_
 intro h0 w0
 refine J.sr <| JL.as Ev.c <| JL.as Ev.c <| JL.n4 <| JL.mv (t2 rfl) <| JL.mv (t4 rfl) <| JL.ef (Ef.call (.cons (t1 rfl) (.cons (t0 rfl) (.cons Ev.c .nil))) (tl_nild m (-1)) (by repeat constructor) ?_)
 rintro - -
 simp only [nA]
 exact JL.e (t0 rfl) <| JL.e (t1 rfl) <| JL.as (t1 rfl) <| JL.as (t1 rfl) <| JL.nr <| At.r (()) (trivial) (ResV.two rfl (t1 rfl) (t0 rfl)) rfl

set_option maxHeartbeats 400000 in
theorem tn_nilm (d : Nat) :
    Fn Tryz.prog 19 [.pointer (some ⟨d, 0, none⟩), .pointer none] [] (X := Unit) (fun _ => True) (fun _ => .tuple #[.pointer none, .int .i64 1]) (fun _ => []) := by
 refine Fn.mk' (n := 11) (l := [(0, .pointer (some ⟨d, 0, none⟩)), (1, .pointer none)]) (fn := Tryz.f19) Tryz.func19 (by kernel_rfl) rfl rfl (by simp) rfl ?_
 intro h0 w0
 refine J.sr <| JL.as Ev.c <| JL.as Ev.c <| JL.n4 <| JL.mv (t2 rfl) <| JL.mv (t4 rfl) <| JL.ef (Ef.call (.cons (t1 rfl) (.cons (t0 rfl) (.cons Ev.c .nil))) (tl_nilm d (-1)) (by repeat constructor) ?_)
 rintro - -
 simp only [nA]
 exact JL.e (t0 rfl) <| JL.e (t1 rfl) <| JL.as (t1 rfl) <| JL.as (t1 rfl) <| JL.nr <| At.r (()) (trivial) (ResV.two rfl (t1 rfl) (t0 rfl)) rfl

set_option maxHeartbeats 1000000 in
theorem nil_any (o : OpR) (hok : o.ok) :
    Fn Tryz.prog 4 [.agg (opR o).toArray] [] (X := Unit) (fun _ => True) (fun _ => .bool true) (fun _ => []) := by
 refine Fn.mk' (n := 185) (l := [(0, .agg (opR o).toArray)]) (fn := Tryz.f4) Tryz.func4 (by kernel_rfl) rfl rfl (by simp) rfl ?_
 intro h0 w0
 refine J.sr <| JL.ef (Ef.box (t0 rfl) rfl ?_)
 intro b1
 refine JL.as Ev.c <| JL.n5 <| JL.ef (Ef.call .nil (known_any) (by repeat constructor) ?_)
 rintro - -
 simp only [nA]
 refine JL.rd (Rd.not (EvB (t0 rfl) rfl)) <| JL.n2 <| J.condF (EvB (t0 rfl) rfl) <| J.k4 <| JL.as Ev.c <| JL.n4 <| JL.mv (t0 rfl) <| JL.rd (Rd.ldB Tryz.isAgg42 Tryz.sizeOf42 (t5 rfl) (by repeat constructor) (by first | rfl | assumption | simp_all)) ?_
 refine JL.ef (Ef.call (.cons (t0 rfl) .nil) (key_any o hok) (by repeat constructor) ?_)
 rintro - -
 simp only [nA]
 refine JL.ef (Ef.call (.cons (t2 rfl) (.cons (t0 rfl) .nil)) (get_nilt (keyF o)) (by repeat constructor) ?_)
 rintro - -
 simp only [nA]
 refine JL.mv (t0 rfl) <| JL.e (t0 rfl) <| JL.e (t1 rfl) <| JL.e (t2 rfl) <| JL.as (t2 rfl) <| JL.as (t2 rfl) <| JL.as (t2 rfl) <| JL.n4 <| JL.mv (t11 rfl) <| JL.rd (Rd.ldB Tryz.isAgg42 Tryz.sizeOf42 (t16 rfl) (by repeat constructor) (by first | rfl | assumption | simp_all)) ?_
 refine JL.ef (Ef.call (.cons (t0 rfl) .nil) (key_any o hok) (by repeat constructor) ?_)
 rintro - -
 simp only [nA]
 refine JL.ef (Ef.call (.cons (t2 rfl) (.cons (t0 rfl) .nil)) (del_nilt (keyF o)) (by repeat constructor) ?_)
 rintro - -
 simp only [nA]
 refine JL.mv (t0 rfl) <| JL.e (t0 rfl) <| JL.e (t1 rfl) <| JL.as (t1 rfl) <| JL.as (t1 rfl) <| JL.ns <| J.draw [⟨false, 0, 1⟩, lz, ⟨true, 0, 0⟩, ⟨false, 0, 1⟩, ⟨false, 0, 1⟩, ⟨false, 0, 1⟩, ⟨false, 0, 1⟩, ⟨true, 1, 1⟩, ⟨false, 2, 2⟩, ⟨false, 2, 2⟩, ⟨false, 2, 2⟩, ⟨false, 2, 2⟩, ⟨false, 2, 2⟩] [2, 7] mixed rfl <| DRun.at [] [0, 1, 3, 4, 5, 6] rfl rfl ?_ ?_
 exact .nil
 refine DNew.rd rfl (Rd.move (t20 rfl)) <| DNew.rd rfl (Rd.ldB Tryz.isAgg42 Tryz.sizeOf42 (t25 rfl) (by repeat constructor) (by first | rfl | assumption | simp_all)) ?_
 refine DNew.rd rfl ((by first | exact Rd.fld0 fld_42_5 (t26 rfl) | exact Rd.fld fld_42_5 (t26 rfl))) ?_
 refine DNew.rd rfl (Rd.ldN Tryz.isAgg9 (t0 rfl) (by repeat constructor) (by repeat constructor)) ?_
 refine DNew.rd rfl ((by first | exact Rd.fld0 fld_42_6 (t28 rfl) | exact Rd.fld fld_42_6 (t28 rfl))) ?_
 refine DNew.rd rfl (Rd.ldN Tryz.isAgg3 (t0 rfl) (by repeat constructor) (by repeat constructor)) ?_
 refine DNew.nil <| DRun.ef rfl (Ef.call (.cons (t4 rfl) .nil) (key_any o hok) (by repeat constructor) ?_)
 rintro - -
 simp only [nA]
 refine DRun.at [0, 3, 4, 5, 6] [] rfl rfl ?_ ?_
 refine DCar.rd rfl (lk6 rfl) (Rd.move (t27 rfl)) <| DCar.rd rfl (lk4 rfl) ((by first | exact Rd.fld0 fld_42_5 (t31 rfl) | exact Rd.fld fld_42_5 (t31 rfl))) ?_
 refine DCar.rd rfl (lk3 rfl) (Rd.ldN Tryz.isAgg9 (t4 rfl) (by repeat constructor) (by repeat constructor)) ?_
 refine DCar.rd rfl (lk2 rfl) ((by first | exact Rd.fld0 fld_42_6 (t31 rfl) | exact Rd.fld fld_42_6 (t31 rfl))) ?_
 refine DCar.rd rfl (lk1 rfl) (Rd.ldN Tryz.isAgg3 (t2 rfl) (by repeat constructor) (by repeat constructor)) ?_
 exact .nil
 refine DNew.nil <| DRun.ef rfl (Ef.call (.cons (t6 rfl) (.cons (t0 rfl) (.cons (t3 rfl) (.cons (t1 rfl) .nil)))) (range_nilt (keyF o) o.to o.most) (by repeat constructor) ?_)
 rintro - -
 simp only [nA]
 refine DRun.end [] [8, 9, 10, 11, 12] rfl rfl ?_ ?_
 exact .nil
 refine DNew.rd rfl (Rd.move (t0 rfl)) <| DNew.rd rfl (Rd.extract (t0 rfl) (by repeat constructor)) ?_
 refine DNew.rd rfl (Rd.extract (t1 rfl) (by repeat constructor)) ?_
 refine DNew.rd rfl (Rd.assign (t1 rfl)) <| DNew.rd rfl (Rd.assign (t1 rfl)) <| DNew.n2 <| J.seq <| J.live (K := [(10, _), (9, _), (8, _), (7, _), (6, _), (5, _), (4, _), (3, _), (2, _), (1, _)]) ⟨lk0, (lk1 rfl), (lk13 rfl), (lk14 rfl), (lk22 rfl), (lk23 rfl), (lk24 rfl), (lk33 rfl), (lk36 rfl), (lk37 rfl), trivial⟩ ?_
 intro ρ2
 refine J.region <| JL.mv (t7 rfl) <| JL.ef (Ef.call (.cons (t0 rfl) .nil) (len_nilt) (by repeat constructor) ?_)
 rintro - -
 simp only [nA]
 refine JL.mv (t0 rfl) <| JL.e (t0 rfl) <| JL.e (t1 rfl) <| JL.as (t1 rfl) <| JL.as (t1 rfl) <| JL.n4 <| JL.mv (t14 rfl) <| JL.ef (Ef.call (.cons (t0 rfl) .nil) (height_nilt) (by repeat constructor) ?_)
 rintro - -
 simp only [nA]
 refine JL.mv (t0 rfl) <| JL.e (t0 rfl) <| JL.e (t1 rfl) <| JL.as (t1 rfl) <| JL.as (t1 rfl) <| JL.n4 <| JL.mv (t21 rfl) <| JL.ef (Ef.call (.cons (t0 rfl) .nil) (blocks_nilt) (by repeat constructor) ?_)
 rintro - -
 simp only [nA]
 refine JL.mv (t0 rfl) <| JL.e (t0 rfl) <| JL.e (t1 rfl) <| JL.as (t1 rfl) <| JL.as (t1 rfl) <| JL.ns <| J.live (K := [(16, _), (15, _), (14, _), (13, _), (12, _), (11, _), (10, _), (9, _), (8, _), (7, _), (6, _), (5, _), (4, _), (3, _), (2, _), (1, _)]) ⟨lk0, (lk1 rfl), (lk7 rfl), (lk8 rfl), (lk14 rfl), (lk15 rfl), (lk21 rfl), (lk22 rfl), (lk23 rfl), (lk24 rfl), (lk25 rfl), (lk26 rfl), (lk27 rfl), (lk28 rfl), (lk29 rfl), (lk30 rfl), trivial⟩ ?_
 intro ρ3
 refine J.region <| JL.ef (Ef.call (.cons Ev.c .nil) (fresh_any 5 (by decide) (by decide)) (by repeat constructor) ?_)
 rintro ⟨d, m, t⟩ -
 simp only [cA, nA]
 refine JL.mv (t0 rfl) <| JL.e (t0 rfl) <| JL.e (t1 rfl) <| JL.ef (Ef.alloc Tryz.zeroValue28 rfl ?_)
 intro b4
 refine JL.ef0 (Ef.stB Tryz.sizeOf28 (t0 rfl) (t2 rfl) (by repeat constructor) (by repeat constructor) (by first | rfl | assumption | simp_all) (by first | rfl | assumption | simp_all) (by first | exact bv_one _ | exact cons_one rfl (bv_one _) | (simp [Value.oneCell']; done) | (simp [Value.oneCell', str]; done)) (by decide) ?_)
 refine JL.as (t1 rfl) <| JL.n4 <| JL.rd ((by first | exact Rd.fld0 fld_28_1 (t1 rfl) | exact Rd.fld fld_28_1 (t1 rfl))) ?_
 refine JL.rd (Rd.ldN Tryz.isAgg25 (t0 rfl) (by repeat constructor) (by repeat constructor)) ?_
 refine JL.ef (Ef.call (.cons Ev.c (.cons (t0 rfl) .nil)) (tn_nild m) (by repeat constructor) ?_)
 rintro - -
 simp only [nA]
 refine JL.mv (t0 rfl) <| JL.e (t0 rfl) <| JL.e (t1 rfl) <| JL.as (t1 rfl) <| JL.as (t1 rfl) <| JL.ns <| J.live (K := [(20, _), (19, _), (18, _), (17, _), (16, _), (15, _), (14, _), (13, _), (12, _), (11, _), (10, _), (9, _), (8, _), (7, _), (6, _), (5, _), (4, _), (3, _), (2, _), (1, _)]) ⟨lk0, (lk1 rfl), (lk8 rfl), (lk9 rfl), (lk14 rfl), (lk15 rfl), (lk16 rfl), (lk17 rfl), (lk18 rfl), (lk19 rfl), (lk20 rfl), (lk21 rfl), (lk22 rfl), (lk23 rfl), (lk24 rfl), (lk25 rfl), (lk26 rfl), (lk27 rfl), (lk28 rfl), (lk29 rfl), trivial⟩ ?_
 intro ρ5
 refine J.region <| JL.rd ((by first | exact Rd.fld0 fld_28_0 (t3 rfl) | exact Rd.fldz fld_28_0 (t3 rfl))) ?_
 refine JL.rd (Rd.ldN Tryz.isAgg24 (t0 rfl) (by repeat constructor) (by repeat constructor)) ?_
 refine JL.ef (Ef.call (.cons (t0 rfl) (.cons Ev.c .nil)) (tn_nilm d) (by repeat constructor) ?_)
 rintro - -
 simp only [nA]
 refine JL.mv (t0 rfl) <| JL.e (t0 rfl) <| JL.e (t1 rfl) <| JL.as (t1 rfl) <| JL.as (t1 rfl) <| JL.n4 <| JL.rd ((by first | exact Rd.fld0 fld_28_1 (t11 rfl) | exact Rd.fld fld_28_1 (t11 rfl))) ?_
 refine JL.rd (Rd.ldN Tryz.isAgg25 (t0 rfl) (by repeat constructor) (by repeat constructor)) ?_
 refine JL.ef (Ef.call (.cons Ev.c (.cons (t0 rfl) (.cons Ev.c .nil))) (tl_nild m 3) (by repeat constructor) ?_)
 rintro - -
 simp only [nA]
 refine JL.mv (t0 rfl) <| JL.e (t0 rfl) <| JL.e (t1 rfl) <| JL.as (t1 rfl) <| JL.as (t1 rfl) <| JL.ns <| J.seq <| J.live (K := [(24, _), (23, _), (22, _), (21, _), (20, _), (19, _), (18, _), (16, _), (15, _), (14, _), (13, _), (12, _), (11, _), (10, _), (9, _), (8, _), (7, _), (6, _), (5, _), (4, _), (3, _), (2, _), (1, _)]) ⟨lk0, (lk1 rfl), (lk8 rfl), (lk9 rfl), (lk16 rfl), (lk17 rfl), (lk18 rfl), (lk20 rfl), (lk21 rfl), (lk22 rfl), (lk23 rfl), (lk24 rfl), (lk25 rfl), (lk26 rfl), (lk27 rfl), (lk28 rfl), (lk29 rfl), (lk30 rfl), (lk31 rfl), (lk32 rfl), (lk33 rfl), (lk34 rfl), (lk35 rfl), trivial⟩ ?_
 intro ρ6
 refine J.region <| JL.mv (t6 rfl) <| JL.rd (Rd.not (EvB (t0 rfl) rfl)) <| JL.mv (t0 rfl) <| JL.rdG rfl (EvB (t0 rfl) rfl) rfl (Rd.move (t8 rfl)) <| JL.rdG rfl (EvB (t1 rfl) rfl) rfl (Rd.neqNil (t0 rfl) Tryz.runUnderlying26) <| JL.rd (Rd.pickF (EvB (t2 rfl) rfl) (t0 rfl)) <| JL.mv (t0 rfl) <| JL.rdG rfl (EvB (t0 rfl) rfl) rfl (Rd.move (t11 rfl)) <| JL.rdG rfl (EvB (t1 rfl) rfl) rfl (Rd.neq (t0 rfl) Ev.c) <| JL.rd (Rd.pickF (EvB (t2 rfl) rfl) (t0 rfl)) <| JL.mv (t0 rfl) <| JL.rdG rfl (EvB (t0 rfl) rfl) rfl (Rd.move (t14 rfl)) <| JL.rdG rfl (EvB (t1 rfl) rfl) rfl (Rd.neqNil (t0 rfl) Tryz.runUnderlying26) <| JL.rd (Rd.pickF (EvB (t2 rfl) rfl) (t0 rfl)) <| JL.mv (t0 rfl) <| JL.rdG rfl (EvB (t0 rfl) rfl) rfl (Rd.move (t17 rfl)) <| JL.rdG rfl (EvB (t1 rfl) rfl) rfl (Rd.neq (t0 rfl) Ev.c) <| JL.rd (Rd.pickF (EvB (t2 rfl) rfl) (t0 rfl)) <| JL.mv (t0 rfl) <| JL.rdG rfl (EvB (t0 rfl) rfl) rfl (Rd.move (t20 rfl)) <| JL.rdG rfl (EvB (t1 rfl) rfl) rfl (Rd.neqNil (t0 rfl) Tryz.runUnderlying26) <| JL.rd (Rd.pickF (EvB (t2 rfl) rfl) (t0 rfl)) <| JL.mv (t0 rfl) <| JL.live (K := [(112, _), (24, _), (16, _), (15, _), (14, _), (13, _), (12, _), (11, _), (10, _), (9, _), (8, _), (7, _), (6, _), (5, _), (4, _), (3, _), (2, _), (1, _)]) ⟨lk0, (lk23 rfl), (lk30 rfl), (lk31 rfl), (lk32 rfl), (lk33 rfl), (lk34 rfl), (lk35 rfl), (lk36 rfl), (lk37 rfl), (lk38 rfl), (lk39 rfl), (lk40 rfl), (lk41 rfl), (lk42 rfl), (lk43 rfl), (lk44 rfl), (lk45 rfl), trivial⟩ ?_
 intro ρ7
 refine JL.rdG rfl (EvB (t0 rfl) rfl) rfl (Rd.move (t1 rfl)) <| JL.rdG rfl (EvB (t1 rfl) rfl) rfl (Rd.neq (t0 rfl) Ev.c) <| JL.rd (Rd.pickF (EvB (t2 rfl) rfl) (t0 rfl)) <| JL.n2 <| J.condF (EvB (t0 rfl) rfl) <| J.k4 <| JL.mv (t17 rfl) <| JL.rd (Rd.str_eql (t0 rfl) Ev.c) <| JL.mv (t0 rfl) <| JL.rdG rfl (EvB (t0 rfl) rfl) rfl (Rd.move (t19 rfl)) <| JL.rdG rfl (EvB (t1 rfl) rfl) rfl (Rd.not (t0 rfl)) <| JL.rd (Rd.pickT (EvB (t2 rfl) rfl) (t0 rfl)) <| JL.mv (t0 rfl) <| JL.rdG rfl (EvB (t0 rfl) rfl) rfl (Rd.move (t22 rfl)) <| JL.rdG rfl (EvB (t1 rfl) rfl) rfl (Rd.eql (t0 rfl) Ev.c) <| JL.rd (Rd.pickT (EvB (t2 rfl) rfl) (t0 rfl)) <| JL.mv (t0 rfl) <| JL.rdG rfl (EvB (t0 rfl) rfl) rfl (Rd.move (t25 rfl)) <| JL.rdG rfl (EvB (t1 rfl) rfl) rfl (Rd.not (t0 rfl)) <| JL.rd (Rd.pickT (EvB (t2 rfl) rfl) (t0 rfl)) <| JL.mv (t0 rfl) <| JL.rdG rfl (EvB (t0 rfl) rfl) rfl (Rd.move (t28 rfl)) <| JL.rdG rfl (EvB (t1 rfl) rfl) rfl (Rd.eql (t0 rfl) Ev.c) <| JL.rd (Rd.pickT (EvB (t2 rfl) rfl) (t0 rfl)) <| JL.mv (t0 rfl) <| JL.rdG rfl (EvB (t0 rfl) rfl) rfl (Rd.move (t31 rfl)) <| JL.rdG rfl (EvB (t1 rfl) rfl) rfl (Rd.len Tryz.runUnderlying48 (t0 rfl)) <| JL.rdG rfl (EvB (t2 rfl) rfl) rfl (Rd.eql (t0 rfl) Ev.c) <| JL.rd (Rd.pickT (EvB (t3 rfl) rfl) (t0 rfl)) <| JL.mv (t0 rfl) <| JL.rdG rfl (EvB (t0 rfl) rfl) rfl (Rd.move (t35 rfl)) <| JL.live (K := [(140, _), (139, _), (16, _), (15, _), (14, _), (13, _), (12, _), (11, _), (3, _), (2, _), (1, _)]) ⟨lk0, (lk1 rfl), (lk30 rfl), (lk31 rfl), (lk32 rfl), (lk33 rfl), (lk34 rfl), (lk35 rfl), (lk43 rfl), (lk44 rfl), (lk45 rfl), trivial⟩ ?_
 intro ρ8
 refine JL.rdG rfl (EvB (t1 rfl) rfl) rfl (Rd.eql (t0 rfl) Ev.c) <| JL.rd (Rd.pickT (EvB (t2 rfl) rfl) (t0 rfl)) <| JL.mv (t0 rfl) <| JL.rdG rfl (EvB (t0 rfl) rfl) rfl (Rd.move (t10 rfl)) <| JL.rdG rfl (EvB (t1 rfl) rfl) rfl (Rd.eql (t0 rfl) Ev.c) <| JL.rd (Rd.pickT (EvB (t2 rfl) rfl) (t0 rfl)) <| JL.mv (t0 rfl) <| JL.rdG rfl (EvB (t0 rfl) rfl) rfl (Rd.move (t13 rfl)) <| JL.rdG rfl (EvB (t1 rfl) rfl) rfl (Rd.eql (t0 rfl) Ev.c) <| JL.rd (Rd.pickT (EvB (t2 rfl) rfl) (t0 rfl)) <| JL.mv (t0 rfl) <| JL.rdG rfl (EvB (t0 rfl) rfl) rfl (Rd.move (t16 rfl)) <| JL.rdG rfl (EvB (t1 rfl) rfl) rfl (Rd.eql (t0 rfl) Ev.c) <| JL.rd (Rd.pickT (EvB (t2 rfl) rfl) (t0 rfl)) <| JL.mv (t0 rfl) <| JL.rdG rfl (EvB (t0 rfl) rfl) rfl (Rd.move (t19 rfl)) <| JL.rdG rfl (EvB (t1 rfl) rfl) rfl (Rd.eql (t0 rfl) Ev.c) <| JL.rd (Rd.pickT (EvB (t2 rfl) rfl) (t0 rfl)) <| JL.mv (t0 rfl) <| JL.rdG rfl (EvB (t0 rfl) rfl) rfl (Rd.move (t22 rfl)) <| JL.rdG rfl (EvB (t1 rfl) rfl) rfl (Rd.len Tryz.runUnderlying34 (t0 rfl)) <| JL.rdG rfl (EvB (t2 rfl) rfl) rfl (Rd.eql (t0 rfl) Ev.c) <| JL.rd (Rd.pickT (EvB (t3 rfl) rfl) (t0 rfl)) <| JL.mv (t0 rfl) <| JL.rdG rfl (EvB (t0 rfl) rfl) rfl (Rd.move (t26 rfl)) <| JL.rdG rfl (EvB (t1 rfl) rfl) rfl (Rd.eql (t0 rfl) Ev.c) <| JL.rd (Rd.pickT (EvB (t2 rfl) rfl) (t0 rfl)) <| JL.mv (t0 rfl) <| JL.rdG rfl (EvB (t0 rfl) rfl) rfl (Rd.move (t36 rfl)) <| JL.efG rfl (EvB (t1 rfl) rfl) rfl (Ef.call (.cons (t0 rfl) .nil) (root_nilt) (by repeat constructor) ?_)
 rintro - -
 simp only [nA]
 refine JL.rdG rfl (EvB (t2 rfl) rfl) rfl (Rd.eql (t0 rfl) Ev.c) <| JL.rd (Rd.pickT (EvB (t3 rfl) rfl) (t0 rfl)) <| JL.mv (t0 rfl) <| JL.rdG rfl (EvB (t0 rfl) rfl) rfl (Rd.move (t41 rfl)) <| JL.rdG rfl (EvB (t1 rfl) rfl) rfl (Rd.ldB Tryz.isAgg42 Tryz.sizeOf42 (t44 rfl) (by repeat constructor) (by first | rfl | assumption | simp_all)) ?_
 refine JL.live (K := [(175, _), (174, _), (173, _), (3, _), (2, _)]) ⟨lk0, (lk1 rfl), (lk2 rfl), (lk43 rfl), (lk44 rfl), trivial⟩ ?_
 intro ρ9
 refine JL.efG rfl (EvB (t2 rfl) rfl) rfl (Ef.call (.cons (t0 rfl) .nil) (key_any o hok) (by repeat constructor) ?_)
 rintro - -
 simp only [nA]
 refine JL.efG rfl (EvB (t3 rfl) rfl) rfl (Ef.call (.cons (t2 rfl) (.cons (t0 rfl) (.cons Ev.c .nil))) (put_nilt (keyF o) []) (by repeat constructor) ?_)
 rintro - -
 simp only [nA]
 refine JL.rdG rfl (EvB (t4 rfl) rfl) rfl (Rd.eql (t0 rfl) Ev.c) <| JL.rd (Rd.pickT (EvB (t5 rfl) rfl) (t0 rfl)) <| JL.mv (t0 rfl) <| JL.rdG rfl (EvB (t0 rfl) rfl) rfl (Rd.move (t8 rfl)) <| JL.efG rfl (EvB (t1 rfl) rfl) rfl (Ef.call (.cons (t0 rfl) .nil) (check_nilt) (by repeat constructor) ?_)
 rintro - -
 simp only [nA]
 exact JL.rdG rfl (EvB (t2 rfl) rfl) rfl (Rd.eql (t0 rfl) Ev.c) <| JL.rd (Rd.pickT (EvB (t3 rfl) rfl) (t0 rfl)) <| JL.as (t0 rfl) <| JL.nr <| At.r (()) (trivial) (ResV.one rfl (t0 rfl)) rfl
end Go.Proofs.YtbhladkbnleeoaaGreat

namespace Go.Proofs.YtbhladkbnleeoaaGreat
open Go.ChangeShapes Go.WideShapes Go.ChangeAt Go.RowKit

theorem own : ownKnob Tryz.prog.godebug = none := by kernel_rfl

theorem laid_ : laidOutB Tryz.prog = true := by kernel_rfl
theorem u8_wf {a : Int} (h : (Lit.int .u8 a).wf = true) : ∃ c : UInt8, a = (c.toNat : Int) := by
  have h2 : 0 ≤ a ∧ a ≤ 255 := by
    have := h
    have m0 : IntKind.u8.min = 0 := by decide
    have m1 : IntKind.u8.max = 255 := by decide
    simp [Lit.wf, m0, m1] at this
    omega
  refine ⟨UInt8.ofNat a.toNat, ?_⟩
  rw [UInt8.toNat_ofNat']
  omega

end Go.Proofs.YtbhladkbnleeoaaGreat

namespace Go.Proofs.YtbhladkbnleeoaaGreat
open Go.ChangeShapes Go.WideShapes Go.ChangeAt Go.RowKit

/-- All that was there, to be read only. -/
def roOld (W : World) : Frag := fun b => (W.heap[b]?).map fun o => (false, o)
theorem roOld_sub (W : World) : Sub (roOld W) W := by
  intro b f o h
  unfold roOld at h
  cases e : W.heap[b]? with
  | none => rw [e] at h; cases h
  | some o' => rw [e] at h; cases h; rfl
theorem roOld_own {W : World} {b : Nat} : ¬ Own (roOld W) b := by
  rintro ⟨o, h⟩
  unfold roOld at h
  cases e : W.heap[b]? with
  | none => rw [e] at h; cases h
  | some o' => rw [e] at h; cases h
theorem Fr.old {W W' : World} {h' : Frag} (f : Fr (roOld W) W h' W') : W.keptBut W' (fun _ => False) := by
  have r := World.keptBut_refl W (fun _ => False)
  exact ⟨f.os.trans r.1, f.output.trans r.2.1, fun i hi => by
    have e := f.keep i hi roOld_own
    rw [e]
    exact r.2.2 i hi⟩
theorem Fr.below {W W' : World} {h' : Frag} (f : Fr (roOld W) W h' W') : Below W.heap.size W W' := ⟨f.os, f.tape, f.output, f.size, fun k hk => f.keep k hk roOld_own⟩

section
variable {H : Type} {enc : TypeId × Value → H} {P : Program} {W : World}

end

end Go.Proofs.YtbhladkbnleeoaaGreat

namespace Go.Proofs.YtbhladkbnleeoaaGreat
open Go.ChangeShapes Go.WideShapes Go.ChangeAt Go.RowKit

theorem i64_wf {a : Int} (h : (Lit.int .i64 a).wf = true) : -9223372036854775808 ≤ a ∧ a ≤ 9223372036854775807 := by
  have m0 : IntKind.i64.min = -9223372036854775808 := by decide
  have m1 : IntKind.i64.max = 9223372036854775807 := by decide
  simp [Lit.wf, m0, m1] at h
  omega
theorem u16_wf {a : Int} (h : (Lit.int .u16 a).wf = true) : ∃ n : Nat, a = (n : Int) ∧ n < 65536 := by
  have m0 : IntKind.u16.min = 0 := by decide
  have m1 : IntKind.u16.max = 65535 := by decide
  simp [Lit.wf, m0, m1] at h
  exact ⟨a.toNat, by omega, by omega⟩
theorem str_bytes (s : ByteArray) : Value.string s = str s.data.toList := by unfold str; simp
section
variable {H : Type} {enc : TypeId × Value → H} {W : World}
set_option maxRecDepth 100000 in
theorem open_op {fuel : Nat} {u : List Value} {x : DataW H × List MemPlace} (h : DataW.trod enc Tryz.prog W 0 (fun _ => true) true fuel 42 u = some x) : ∃ o : OpR, u = opR o ∧ o.ok := by
  obtain ⟨ys, n, _, _, hl, hlen, hf⟩ := DataW.trod_struct Tryz.underlying42 h
  have hl5 : u.length = 7 := hl.trans (by kernel_rfl)
  have c1 : Tryz.prog.cellsOf 5 = 1 := by kernel_rfl
  have c2 : Tryz.prog.cellsOf 3 = 1 := by kernel_rfl
  have c3 : Tryz.prog.cellsOf 9 = 1 := by kernel_rfl
  have c4 : Tryz.prog.cellsOf 40 = 1 := by kernel_rfl
  match u, hl5 with
  | [u0, u1, u2, u3, u4, u5, u6], _ =>
    match ys, hlen with
    | [y0, y1, y2, y3, y4, y5, y6], _ =>
      have f0 : DataW.trod enc Tryz.prog W 0 (fun _ => true) true n 5 (([u0, u1, u2, u3, u4, u5, u6].drop 0).take (Tryz.prog.cellsOf 5)) = some y0 := hf 0 _ rfl
      rw [c1] at f0
      have f1 : DataW.trod enc Tryz.prog W 0 (fun _ => true) true n 9 (([u0, u1, u2, u3, u4, u5, u6].drop 1).take (Tryz.prog.cellsOf 9)) = some y1 := hf 1 _ rfl
      rw [c3] at f1
      have f2 : DataW.trod enc Tryz.prog W 0 (fun _ => true) true n 9 (([u0, u1, u2, u3, u4, u5, u6].drop 2).take (Tryz.prog.cellsOf 9)) = some y2 := hf 2 _ rfl
      rw [c3] at f2
      have f3 : DataW.trod enc Tryz.prog W 0 (fun _ => true) true n 40 (([u0, u1, u2, u3, u4, u5, u6].drop 3).take (Tryz.prog.cellsOf 40)) = some y3 := hf 3 _ rfl
      rw [c4] at f3
      have f4 : DataW.trod enc Tryz.prog W 0 (fun _ => true) true n 40 (([u0, u1, u2, u3, u4, u5, u6].drop 4).take (Tryz.prog.cellsOf 40)) = some y4 := hf 4 _ rfl
      rw [c4] at f4
      have f5 : DataW.trod enc Tryz.prog W 0 (fun _ => true) true n 9 (([u0, u1, u2, u3, u4, u5, u6].drop 5).take (Tryz.prog.cellsOf 9)) = some y5 := hf 5 _ rfl
      rw [c3] at f5
      have f6 : DataW.trod enc Tryz.prog W 0 (fun _ => true) true n 3 (([u0, u1, u2, u3, u4, u5, u6].drop 6).take (Tryz.prog.cellsOf 3)) = some y6 := hf 6 _ rfl
      rw [c2] at f6
      obtain ⟨z0, e0, _, w0⟩ := DataW.trod_int Tryz.underlying5 f0
      replace e0 : [u0] = _ := e0
      obtain ⟨z1, e1, _, w1⟩ := DataW.trod_string Tryz.underlying9 f1
      replace e1 : [u1] = _ := e1
      obtain ⟨z2, e2, _, w2⟩ := DataW.trod_string Tryz.underlying9 f2
      replace e2 : [u2] = _ := e2
      obtain ⟨z3, e3, _, w3⟩ := DataW.trod_int Tryz.underlying40 f3
      replace e3 : [u3] = _ := e3
      obtain ⟨z4, e4, _, w4⟩ := DataW.trod_int Tryz.underlying40 f4
      replace e4 : [u4] = _ := e4
      obtain ⟨z5, e5, _, w5⟩ := DataW.trod_string Tryz.underlying9 f5
      replace e5 : [u5] = _ := e5
      obtain ⟨z6, e6, _, w6⟩ := DataW.trod_int Tryz.underlying3 f6
      replace e6 : [u6] = _ := e6
      obtain ⟨k, rfl⟩ := u8_wf w0
      obtain ⟨n3, rfl, b3⟩ := u16_wf w3
      obtain ⟨n4, rfl, b4⟩ := u16_wf w4
      simp only [List.cons.injEq, and_true] at e0 e1 e2 e3 e4 e5 e6
      subst e0 e1 e2 e3 e4 e5 e6
      have hb := i64_wf w6
      refine ⟨⟨k, z1.data.toList, z2.data.toList, n3, n4, z5.data.toList, z6⟩, ?_, b3, b4, hb.1, hb.2⟩
      unfold opR
      rw [str_bytes, str_bytes, str_bytes]
end

theorem op_value {P : Program} {w : World} {r : Reach} {base : Nat} {t : TypeId} {fs : Array Field} {v : Value} {u : List Value} (ht : P.underlying t = some (.struct fs)) (h : Value.okWide P w r base t v) (hc : v.cells.toList = u) : v = .agg u.toArray := by
  obtain ⟨cs, rfl, _⟩ := Go.WideShapes.okWide_struct ht h
  have hc2 : cs.toList = u := hc
  rw [← hc2]
end Go.Proofs.YtbhladkbnleeoaaGreat

