/-
  Ranging over a map with integer keys; structs compared. No program in it.
-/
import Derived.Test.YtfnoaohbjlnkgaaB5
import Derived.Maps.RangeRun
namespace Go.Proofs.Ytfnoaohbjlnkgaa

section
variable {P : Program} {C : Cx} {hs hs1 : List Assn} {ρ : Env} {d : Option Tmp} {ty : TypeId} {pos : String} {af : Array Edge} {g : Option (Nat × Bool)} {K : Value → List Assn → Prop}
  {x y z : Operand} {v u : Value} {t kt e : TypeId} {q : IntKind} {m r clock : Nat} {mp : List (Int × Value)} {k : Int} {es : Array MapEntry} {seen : Array Nat}

theorem Ef.rangeM (ht : ∀ w, (underlying t).run P w = .ok (.map kt e) w) (h1 : Ev C.n ρ x (.map (some m))) (tk : Take (imap m mp) hs hs1)
    (kk : ∀ r es clock, Ents es clock mp → K (.pointer (some ⟨r, 0, none⟩)) (pts r (.mapIter (some m) clock #[] clock) :: pts m (.map es clock) :: hs1)) :
    Ef P C hs ρ ⟨d, .range t x, ty, pos, af, g⟩ K :=
  Ef.ex (fun c h => by cases h) (Instr.range t (.map (some m))) (fun ds => by simp only [execOp, h1 ds]) fun w hi => by
    obtain ⟨es, clock, he, hi'⟩ := imap_open tk hi
    have hm := Blk.inv .own hi'
    refine ⟨_, w.alloc (.mapIter (some m) clock #[] clock), _, ?_, hi'.alloc _, kk w.heap.size es clock he⟩
    have e : ∀ (o : Obj) (w : World), (newObj o).run P w = .ok w.heap.size (w.alloc o) := fun _ _ => rfl
    simp [Instr.range, Sem.run_bind, ht w, Result.andThen, run_getMap hm, e]

theorem Ef.next (h1 : Ev C.n ρ x (.pointer (some ⟨r, 0, none⟩))) (hb : Blk m (.map es clock) hs) (tk : Take (pts r (.mapIter (some m) clock seen clock)) hs hs1) (young : ∀ e ∈ es.toList, e.born < clock)
    (kf : (leftOf es seen).size = 0 → K (.tuple [.bool false].toArray) hs)
    (kt : ∀ e ∈ (leftOf es seen).toList, K (.tuple [.bool true, e.key, e.val].toArray) (pts r (.mapIter (some m) clock (seen.push e.born) clock) :: hs1)) :
    Ef P C hs ρ ⟨d, .next x false, ty, pos, af, g⟩ K :=
  Ef.ex (fun c h => by cases h) (Instr.next (.pointer (some ⟨r, 0, none⟩)) false ty) (fun ds => by simp only [execOp, h1 ds]) fun w hi => by
    have hm := hb.inv hi
    have hi2 := Inv.perm tk.perm hi
    have hr := Blk.inv .own hi2
    rcases run_next_at (P := P) w ty r m clock clock seen es clock hr hm young (Nat.le_refl _) with ⟨h0, hrun⟩ | ⟨e, he, w1, hw1, hrun⟩
    · exact ⟨_, w, hs, hrun, hi, kf h0⟩
    · refine ⟨_, _, _, hrun, ?_, kt e he⟩
      have hi3 : C.inv (pts r (.mapIter (some m) clock seen clock) :: hs1) w1 := by
        rcases hw1 with rfl | rfl
        · exact hi2
        · exact Inv.drew hi2
      exact hi3.upd (o' := .mapIter (some m) clock (seen.push e.born) clock) .here

theorem Rd.entry {e : MapEntry} (h1 : Ev C.n ρ x (.pointer (some ⟨r, 0, none⟩))) (hr : Blk r (.mapIter (some m) clock (seen.push e.born) clock) hs) (hb : Blk m (.map es clock) hs) (he : e ∈ es.toList) (hn : (es.toList.map (·.born)).Nodup) :
    Rd P C hs ρ ⟨d, .entry x, ty, pos, af, g⟩ (.tuple [e.key, e.val].toArray) :=
  Rd.ex (fun c h => by cases h) (Instr.entry (.pointer (some ⟨r, 0, none⟩))) (fun ds => by simp only [execOp, h1 ds]) fun w hi => run_entry_at w r m clock seen es clock e (hr.inv hi) (hb.inv hi) he hn
end

theorem left_mem {es : Array MapEntry} {seen : Array Nat} {e : MapEntry} (h : e ∈ (leftOf es seen).toList) : e ∈ es.toList ∧ e.born ∉ seen := by
  unfold leftOf at h
  simpa using h
theorem left_nil {es : Array MapEntry} {seen : Array Nat} (h : (leftOf es seen).size = 0) : ∀ e ∈ es.toList, e.born ∈ seen := by
  intro e he
  have h2 : leftOf es seen = #[] := Array.eq_empty_of_size_eq_zero h
  unfold leftOf at h2
  rw [Array.filter_eq_empty_iff] at h2
  have := h2 e (by simpa using he)
  simpa using this
theorem left_dec {es : Array MapEntry} {seen : Array Nat} {e : MapEntry} (h : e ∈ (leftOf es seen).toList) : (leftOf es (seen.push e.born)).size < (leftOf es seen).size := by
  have hl : ∀ s, (leftOf es s).size = (es.toList.filter fun e => !s.contains e.born).length := fun s => by
    unfold leftOf
    rw [← Array.length_toList, Array.toList_filter]
  rw [hl, hl]
  obtain ⟨hm, hn⟩ := left_mem h
  have hsub : ∀ l : List MapEntry, (l.filter fun e' => !(seen.push e.born).contains e'.born).length ≤ (l.filter fun e' => !seen.contains e'.born).length ∧ (e ∈ l → (l.filter fun e' => !(seen.push e.born).contains e'.born).length < (l.filter fun e' => !seen.contains e'.born).length) := by
    intro l
    induction l with
    | nil => exact ⟨Nat.le_refl _, fun h => by cases h⟩
    | cons a l ih =>
      by_cases ha : a.born ∈ seen
      · have h1 : (!(seen.push e.born).contains a.born) = false := by simp [ha]
        have h2 : (!seen.contains a.born) = false := by simp [ha]
        rw [List.filter_cons, List.filter_cons, h1, h2]
        refine ⟨ih.1, fun hh => ?_⟩
        rcases List.mem_cons.1 hh with rfl | hh
        · exact absurd ha hn
        · exact ih.2 hh
      · have h2 : (!seen.contains a.born) = true := by simp [ha]
        by_cases hb : a.born = e.born
        · have h1 : (!(seen.push e.born).contains a.born) = false := by simp [hb]
          rw [List.filter_cons, List.filter_cons, h1, h2]
          simp only [Bool.false_eq_true, if_false, if_true, List.length_cons]
          exact ⟨Nat.le_succ_of_le ih.1, fun _ => Nat.lt_succ_of_le ih.1⟩
        · have h1 : (!(seen.push e.born).contains a.born) = true := by simp [ha, hb]
          rw [List.filter_cons, List.filter_cons, h1, h2]
          simp only [if_true, List.length_cons]
          refine ⟨Nat.succ_le_succ ih.1, fun hh => ?_⟩
          rcases List.mem_cons.1 hh with rfl | hh
          · exact absurd rfl hb
          · exact Nat.succ_lt_succ (ih.2 hh)
  exact (hsub es.toList).2 hm
theorem Ents.at {es : Array MapEntry} {clock : Nat} {mp : List (Int × Value)} (h : Ents es clock mp) {e : MapEntry} (he : e ∈ es.toList) : ∃ p ∈ mp, e.key = .int .i64 p.1 ∧ e.val = p.2 := by
  have h1 : (e.key, e.val) ∈ mp.map kv := by rw [← h.ents]; exact List.mem_map_of_mem he
  obtain ⟨p, hp, h2⟩ := List.mem_map.1 h1
  simp only [kv, Prod.mk.injEq] at h2
  exact ⟨p, hp, h2.1.symm, h2.2.symm⟩
theorem Ents.of {es : Array MapEntry} {clock : Nat} {mp : List (Int × Value)} (h : Ents es clock mp) {p : Int × Value} (hp : p ∈ mp) : ∃ e ∈ es.toList, e.key = .int .i64 p.1 ∧ e.val = p.2 := by
  have h1 : kv p ∈ es.toList.map fun e => (e.key, e.val) := by rw [h.ents]; exact List.mem_map_of_mem hp
  obtain ⟨e, he, h2⟩ := List.mem_map.1 h1
  simp only [kv, Prod.mk.injEq] at h2
  exact ⟨e, he, h2.1, h2.2⟩
theorem mget_mem : ∀ {mp : List (Int × Value)}, KeysOk mp → ∀ {p : Int × Value}, p ∈ mp → mget mp p.1 = some p.2 := by
  intro mp
  induction mp with
  | nil => intro _ p h; cases h
  | cons a mp ih =>
    intro hn p h
    unfold mget
    rcases List.mem_cons.1 h with rfl | h
    · rw [if_pos rfl]
    · have h1 : a.1 ∉ mp.map (·.1) := (List.nodup_cons.1 hn).1
      rw [if_neg (fun e => h1 (by rw [e]; exact List.mem_map_of_mem h))]
      exact ih (List.nodup_cons.1 hn).2 h
theorem mget_of {mp : List (Int × Value)} {k : Int} {v : Value} (h : mget mp k = some v) : (k, v) ∈ mp := by
  induction mp with
  | nil => cases h
  | cons a mp ih =>
    unfold mget at h
    split at h
    · rename_i e
      cases h
      rw [← e]
      exact List.mem_cons_self ..
    · exact List.mem_cons_of_mem _ (ih h)
theorem nodup_sub : ∀ {l m : List Int}, l.Nodup → (∀ x ∈ l, x ∈ m) → l.length ≤ m.length ∧ (m.length ≤ l.length → ∀ x ∈ m, x ∈ l) := by
  intro l
  induction l with
  | nil => intro m _ _; exact ⟨Nat.zero_le _, fun h x hx => by cases m with | nil => exact hx | cons a m => simp at h⟩
  | cons a l ih =>
    intro m hn hs
    obtain ⟨h1, h2⟩ := List.nodup_cons.1 hn
    have ha := hs a (List.mem_cons_self ..)
    have hlen := List.length_erase_of_mem ha
    have hpos : 0 < m.length := List.length_pos_of_mem ha
    have := ih h2 (m := m.erase a) fun x hx => (List.mem_erase_of_ne (fun e => h1 (by rw [← e]; exact hx))).2 (hs x (List.mem_cons_of_mem _ hx))
    simp only [List.length_cons]
    refine ⟨by omega, fun h x hx => ?_⟩
    by_cases e : x = a
    · rw [e]; exact List.mem_cons_self ..
    · exact List.mem_cons_of_mem _ (this.2 (by omega) x ((List.mem_erase_of_ne e).2 hx))
def eqMap (mp mq : List (Int × Value)) : Prop := ∀ k, mget mp k = mget mq k
theorem mget_key {mp : List (Int × Value)} {k : Int} (h : k ∈ mp.map (·.1)) : ∃ v, mget mp k = some v := by
  cases hg : mget mp k with
  | none => exact absurd h (mget_none.1 hg)
  | some v => exact ⟨v, rfl⟩
theorem eqMap_of {mp mq : List (Int × Value)} (hp : KeysOk mp) (hl : mp.length = mq.length) (h : ∀ p ∈ mp, mget mq p.1 = some p.2) : eqMap mp mq := by
  have hs : ∀ x ∈ mp.map (·.1), x ∈ mq.map (·.1) := fun x hx => by
    obtain ⟨p, hp', rfl⟩ := List.mem_map.1 hx
    by_cases hk : p.1 ∈ mq.map (·.1)
    · exact hk
    · have := h p hp'; rw [mget_none.2 hk] at this; cases this
  have h2 := (nodup_sub hp hs).2 (by simp [hl])
  intro k
  cases hg : mget mp k with
  | some v => exact (h (k, v) (mget_of hg)).symm
  | none =>
    have : k ∉ mq.map (·.1) := fun hk => mget_none.1 hg (h2 k hk)
    exact (mget_none.2 this).symm
theorem eqMap_len {mp mq : List (Int × Value)} (hp : KeysOk mp) (hq : KeysOk mq) (h : eqMap mp mq) : mp.length = mq.length := by
  have k1 : ∀ x ∈ mp.map (·.1), x ∈ mq.map (·.1) := fun x hx => by
    obtain ⟨v, hv⟩ := mget_key hx
    rw [h x] at hv
    exact List.mem_map_of_mem (f := (·.1)) (mget_of hv)
  have k2 : ∀ x ∈ mq.map (·.1), x ∈ mp.map (·.1) := fun x hx => by
    obtain ⟨v, hv⟩ := mget_key hx
    rw [← h x] at hv
    exact List.mem_map_of_mem (f := (·.1)) (mget_of hv)
  have a := (nodup_sub hp k1).1
  have b := (nodup_sub hq k2).1
  simp at a b
  omega

/-! ### structs compared -/
def EqAt (P : Program) (k : Nat) (t : TypeId) (x y : Value) (b : Bool) : Prop := ∀ w, (Op.equalIn k t x y).run P w = .ok b w
theorem EqAt.int {P : Program} {k : Nat} {t : TypeId} {q q' : IntKind} (hu : ∀ w, (underlying t).run P w = .ok (.int q) w) (a b : Int) : EqAt P (k + 1) t (.int q' a) (.int q' b) (decide (a = b)) := fun w => by
  unfold Op.equalIn
  rw [Sem.run_bind, hu w]
  simp only [Result.andThen, if_true]
  show Result.ok (a == b) w = _
  congr 1
theorem EqAt.strs {P : Program} {k : Nat} {t : TypeId} (hu : ∀ w, (underlying t).run P w = .ok .string w) (l m : List UInt8) : EqAt P (k + 1) t (str l) (str m) (decide (l = m)) := fun w => by
  unfold Op.equalIn str
  rw [Sem.run_bind, hu w]
  have e : ((⟨l.toArray⟩ : ByteArray) == ⟨m.toArray⟩) = (l.toArray == m.toArray) := rfl
  show Result.ok ((⟨l.toArray⟩ : ByteArray) == ⟨m.toArray⟩) w = _
  rw [e]
  congr 1
  by_cases h : l = m
  · subst h; simp
  · simp [h]
theorem EqAt.arr {P : Program} {k : Nat} {t e : TypeId} {n : Nat} {q : IntKind} (hu : ∀ w, (underlying t).run P w = .ok (.array n e) w) (he : ∀ w, (underlying e).run P w = .ok (.int q) w) (ha : ∀ w, (isAgg e).run P w = .ok false w) (hz : ∀ w, (sizeOf e).run P w = .ok 1 w)
    {xs ys : List UInt8} (hx : xs.length = n) (hy : ys.length = n) : EqAt P (k + 1 + 1) t (.agg (bv xs).toArray) (.agg (bv ys).toArray) (decide (xs = ys)) := fun w => by
  have hpart : ∀ (l : List UInt8) (i : Nat) (hi : i < l.length) (w : World), (part e (bv l).toArray (i * 1)).run P w = .ok (.int .u8 (l[i].toNat : Int)) w := by
    intro l i hi w
    have hg : (bv l).toArray[i * 1]? = some (.int .u8 (l[i].toNat : Int)) := by simp [bv, hi]
    simp only [part, Sem.run_bind, ha w, Result.andThen, hg]
    rfl
  have heq : ∀ (i : Nat) (h1 : i < xs.length) (h2 : i < ys.length) (w : World), (Op.equalIn (k + 1) e (.int .u8 (xs[i].toNat : Int)) (.int .u8 (ys[i].toNat : Int))).run P w = .ok (decide (xs[i] = ys[i])) w := by
    intro i h1 h2 w
    rw [EqAt.int (k := k) he _ _ w]
    congr 1
    by_cases h : xs[i] = ys[i]
    · simp [h]
    · have : ¬ ((xs[i].toNat : Int) = (ys[i].toNat : Int)) := fun e => h (u8_of e)
      simp [h, this]
  have hl : ∀ (j i : Nat), i + j = n → (forIn (m := Sem) (List.range' i j) ((none, ()) : Option Bool × PUnit) fun i r => do
      if (!(← Op.equalIn (k + 1) e (← part e (bv xs).toArray (i * 1)) (← part e (bv ys).toArray (i * 1)))) = true then pure (ForInStep.done ((some false, ()) : Option Bool × PUnit)) else pure (ForInStep.yield (none, ()))).run P w =
      .ok (if xs.drop i = ys.drop i then (none, ()) else (some false, ())) w := by
    intro j
    induction j with
    | zero =>
      intro i hi
      have h1 : xs.drop i = [] := List.drop_of_length_le (by omega)
      have h2 : ys.drop i = [] := List.drop_of_length_le (by omega)
      rw [h1, h2]; rfl
    | succ j ih =>
      intro i hi
      have h1 : i < xs.length := by omega
      have h2 : i < ys.length := by omega
      rw [List.range'_succ, List.forIn_cons]
      simp only [Sem.run_bind, hpart xs i h1, hpart ys i h2, heq i h1 h2, Result.andThen]
      rw [List.drop_eq_getElem_cons h1, List.drop_eq_getElem_cons h2]
      by_cases hb : xs[i] = ys[i]
      · have := ih (i + 1) (by omega)
        simp only [hb, decide_true, Bool.not_true, Bool.false_eq_true, if_false, Sem.run_pure, Result.andThen, this, List.cons.injEq, true_and]
      · simp only [hb, decide_false, Bool.not_false, if_true, Sem.run_pure, Result.andThen, List.cons.injEq, false_and, if_false]
  have h0 := hl n 0 (by omega)
  unfold Op.equalIn
  rw [Sem.run_bind, hu w]
  simp only [Result.andThen, Sem.run_bind, hz w]
  rw [Std.Legacy.Range.forIn_eq_forIn_range']
  simp only [Std.Legacy.Range.size, Nat.sub_zero, Nat.add_sub_cancel, Nat.div_one]
  rw [h0]
  simp only [List.drop_zero]
  by_cases h : xs = ys
  · simp [h]
  · simp [h]
theorem EqAt.s2 {P : Program} {k : Nat} {t : TypeId} {f1 f2 : Field} {xs ys : Array Value} {x1 x2 y1 y2 : Value} {b1 b2 : Bool} (hu : ∀ w, (underlying t).run P w = .ok (.struct #[f1, f2]) w) (hst : P.stoodInHeld t = false) (n1 : f1.name ≠ "_") (n2 : f2.name ≠ "_")
    (p1 : ∀ w, (part f1.type xs f1.offset).run P w = .ok x1 w) (p2 : ∀ w, (part f2.type xs f2.offset).run P w = .ok x2 w) (q1 : ∀ w, (part f1.type ys f1.offset).run P w = .ok y1 w) (q2 : ∀ w, (part f2.type ys f2.offset).run P w = .ok y2 w)
    (e1 : EqAt P k f1.type x1 y1 b1) (e2 : EqAt P k f2.type x2 y2 b2) : EqAt P (k + 1) t (.agg xs) (.agg ys) (b1 && b2) := fun w => by
  have hp : ∀ w, (program : Sem Program).run P w = .ok P w := fun _ => rfl
  unfold Op.equalIn
  rw [Sem.run_bind, hu w]
  simp only [Result.andThen, Sem.run_bind, hp, hst, Bool.false_eq_true, if_false]
  rw [← Array.forIn_toList]
  simp only [List.forIn_cons, List.forIn_nil, Sem.run_bind, p1, p2, q1, q2, e1 w, e2 w, n1, n2, Result.andThen, ne_eq, not_false_eq_true, if_true]
  cases b1 <;> cases b2 <;> simp [Sem.run_bind, Sem.run_pure, Result.andThen, p1, p2, q1, q2, e1 w, e2 w, n1, n2]
section
variable {P : Program} {C : Cx} {hs hs1 : List Assn} {ρ : Env} {d : Option Tmp} {ty : TypeId} {pos : String} {af : Array Edge} {g : Option (Nat × Bool)}
  {x y z : Operand} {t t' : TypeId} {a b : List Value} {r : Bool}
theorem Rd.neqS (h1 : Ev C.n ρ x (.agg a.toArray)) (h2 : Ev C.n ρ y (.agg b.toArray)) (hg : P.eqGuardType P.depth t = false) (he : EqAt P 10000 t (.agg a.toArray) (.agg b.toArray) r) :
    Rd P C hs ρ ⟨d, .binOp .neq t x y t', ty, pos, af, g⟩ (.bool (!r)) :=
  Rd.cmp h1 h2 (fun w => run_eqGuardA hg w) fun w _ => by
    show (do pure (Value.bool (!(← Op.equalIn 10000 t _ _))) : Sem Value).run P w = _
    rw [Sem.run_bind, he w]; rfl
end
theorem At.shutMap {C : Cx} {Q : Exit → Act → World → Prop} {ex : Exit} {ρ : Env} {m clock : Nat} {es : Array MapEntry} {mp : List (Int × Value)} {hs h1 : List Assn} (e : Ents es clock mp) (t : Take (pts m (.map es clock)) hs h1) (k : At C Q ex ρ (imap m mp :: h1)) : At C Q ex ρ hs :=
  At.weak (fun _ s => imap_shut e (Stars.perm t.perm s)) k
theorem bv_agg_inj {s z : List UInt8} (h : Value.agg (bv s).toArray = .agg (bv z).toArray) : s = z := by
  have h1 : bv s = bv z := by
    have := (Value.agg.injEq _ _).mp h
    simpa using this
  have h2 : ∀ (s z : List UInt8), bv s = bv z → s = z := by
    intro s
    induction s with
    | nil => intro z h; cases z with | nil => rfl | cons a z => cases h
    | cons a s ih =>
      intro z h
      cases z with
      | nil => cases h
      | cons b z =>
        simp only [bv, List.map_cons, List.cons.injEq, Value.int.injEq, true_and] at h
        rw [ih z h.2, u8_of h.1]
  exact h2 s z h1
end Go.Proofs.Ytfnoaohbjlnkgaa
