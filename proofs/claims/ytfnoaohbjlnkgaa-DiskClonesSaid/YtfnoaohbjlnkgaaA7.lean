/-
  Maps with integer keys. No program in it.
-/
import Derived.Test.YtfnoaohbjlnkgaaA6
namespace Go.Proofs.Ytfnoaohbjlnkgaa

/-! ### maps with keys of type int -/
def kv (p : Int × Value) : Value × Value := (.int .i64 p.1, p.2)
def mget : List (Int × Value) → Int → Option Value
  | [], _ => none
  | p :: l, k => if p.1 = k then some p.2 else mget l k
def mput : List (Int × Value) → Int → Value → List (Int × Value)
  | [], k, v => [(k, v)]
  | p :: l, k, v => if p.1 = k then (k, v) :: l else p :: mput l k v
def mdel : List (Int × Value) → Int → List (Int × Value)
  | [], _ => []
  | p :: l, k => if p.1 = k then l else p :: mdel l k

def KeysOk (mp : List (Int × Value)) : Prop := (mp.map (·.1)).Nodup

theorem mget_none {mp : List (Int × Value)} {k : Int} : mget mp k = none ↔ k ∉ mp.map (·.1) := by
  induction mp with
  | nil => simp [mget]
  | cons p mp ih =>
    unfold mget
    by_cases h : p.1 = k
    · simp [h]
    · rw [if_neg h, ih, List.map_cons, List.mem_cons, not_or]
      exact ⟨fun u => ⟨fun e => h e.symm, u⟩, fun u => u.2⟩

theorem mget_mput (mp : List (Int × Value)) (k : Int) (v : Value) (j : Int) : mget (mput mp k v) j = if j = k then some v else mget mp j := by
  induction mp with
  | nil =>
    unfold mput mget mget
    by_cases h : j = k
    · simp [h]
    · rw [if_neg h, if_neg (fun e => h e.symm)]
  | cons p mp ih =>
    unfold mput
    by_cases hp : p.1 = k
    · rw [if_pos hp]
      unfold mget
      by_cases h : j = k
      · simp [h]
      · rw [if_neg h, if_neg (fun e => h e.symm), if_neg (fun e => h (by rw [← e, hp]))]
    · rw [if_neg hp]
      unfold mget
      rw [ih]
      by_cases h : j = k
      · rw [if_pos h, if_neg (fun e => hp (by rw [e, h])), if_pos h]
      · rw [if_neg h, if_neg h]

theorem mget_mdel (mp : List (Int × Value)) (hn : KeysOk mp) (k : Int) (j : Int) : mget (mdel mp k) j = if j = k then none else mget mp j := by
  induction mp with
  | nil => simp [mdel, mget]
  | cons p mp ih =>
    have hn' : KeysOk mp := (List.nodup_cons.1 hn).2
    have hp1 : p.1 ∉ mp.map (·.1) := (List.nodup_cons.1 hn).1
    unfold mdel
    by_cases hp : p.1 = k
    · rw [if_pos hp]
      by_cases h : j = k
      · rw [if_pos h, h, ← hp]; exact mget_none.2 hp1
      · rw [if_neg h]
        conv => rhs; unfold mget
        rw [if_neg (fun e => h (by rw [← e, hp]))]
    · rw [if_neg hp]
      unfold mget
      rw [ih hn']
      by_cases h : j = k
      · rw [if_pos h, if_neg (fun e => hp (by rw [e, h])), if_pos h]
      · rw [if_neg h, if_neg h]

theorem mput_keys (mp : List (Int × Value)) (k : Int) (v : Value) : (mput mp k v).map (·.1) = if k ∈ mp.map (·.1) then mp.map (·.1) else mp.map (·.1) ++ [k] := by
  induction mp with
  | nil => simp [mput]
  | cons p mp ih =>
    unfold mput
    by_cases hp : p.1 = k
    · simp [hp]
    · rw [if_neg hp, List.map_cons, ih]
      have : (k ∈ List.map (·.1) (p :: mp)) ↔ (k ∈ List.map (·.1) mp) := by
        rw [List.map_cons, List.mem_cons]
        exact ⟨fun u => u.resolve_left fun e => hp e.symm, fun u => .inr u⟩
      simp only [this]
      split <;> simp

theorem KeysOk.mput {mp : List (Int × Value)} (h : KeysOk mp) (k : Int) (v : Value) : KeysOk (mput mp k v) := by
  unfold KeysOk
  rw [mput_keys]
  split
  · exact h
  · rename_i hk
    exact List.nodup_append.2 ⟨h, by simp, fun a ha b hb e => hk (by simp at hb; rw [← hb, ← e]; exact ha)⟩

theorem mdel_sub (mp : List (Int × Value)) (k : Int) : (mdel mp k).Sublist mp := by
  induction mp with
  | nil => exact List.Sublist.refl _
  | cons p mp ih =>
    unfold mdel
    split
    · exact List.sublist_cons_self _ _
    · exact ih.cons_cons _
theorem KeysOk.mdel {mp : List (Int × Value)} (h : KeysOk mp) (k : Int) : KeysOk (mdel mp k) := List.Nodup.sublist ((mdel_sub mp k).map _) h

/-- The place of a key. -/
def mix : List (Int × Value) → Int → Option (Nat × Value)
  | [], _ => none
  | p :: l, k => if p.1 = k then some (0, p.2) else (mix l k).map fun q => (q.1 + 1, q.2)
theorem mix_get (mp : List (Int × Value)) (k : Int) : (mix mp k).map (·.2) = mget mp k := by
  induction mp with
  | nil => rfl
  | cons p mp ih =>
    unfold mix mget
    split
    · rfl
    · rw [← ih]; cases mix mp k <;> rfl

/-- The entries of a map block. -/
structure Ents (es : Array MapEntry) (clock : Nat) (mp : List (Int × Value)) : Prop where
  ents : es.toList.map (fun e => (e.key, e.val)) = mp.map kv
  keys : KeysOk mp
  borns : (es.toList.map (·.born)).Nodup
  young : ∀ e ∈ es.toList, e.born < clock

/-- The block m is a map with these entries, in this order. -/
@[irreducible] def imap (m : Nat) (mp : List (Int × Value)) : Assn := fun h => ∃ es clock, h m = some (true, .map es clock) ∧ Ents es clock mp

theorem findNow_ents {q : IntKind} : ∀ (l : List MapEntry) (mp : List (Int × Value)) (k : Int) (i : Nat), l.map (fun e => (e.key, e.val)) = mp.map kv →
    Instr.findNow (.int q) (.int .i64 k) l i = some ((mix mp k).map fun r => (i + r.1, r.2)) := by
  intro l
  induction l with
  | nil =>
    intro mp k i h
    cases mp with
    | nil => rfl
    | cons p mp => simp at h
  | cons e l ih =>
    intro mp k i h
    cases mp with
    | nil => simp at h
    | cons p mp =>
      simp only [List.map_cons, List.cons.injEq, kv, Prod.mk.injEq] at h
      obtain ⟨⟨h1, h2⟩, h3⟩ := h
      unfold Instr.findNow
      rw [h1]
      have hs : Instr.sameNow (.int q) (.int .i64 k) (.int .i64 p.1) = some (k == p.1) := by simp [Instr.sameNow]
      rw [hs]
      unfold mix
      by_cases hp : p.1 = k
      · rw [if_pos hp, ← hp]; simp [h2]
      · have hb : (k == p.1) = false := by simpa using fun e : k = p.1 => hp e.symm
        rw [hb, if_neg hp]
        simp only []
        rw [ih mp k (i + 1) h3]
        cases mix mp k with
        | none => rfl
        | some r => simp; omega

theorem mix_lt {mp : List (Int × Value)} {k : Int} {i : Nat} {v : Value} (h : mix mp k = some (i, v)) : mp[i]? = some (k, v) := by
  induction mp generalizing i with
  | nil => cases h
  | cons p mp ih =>
    unfold mix at h
    split at h
    · rename_i hp
      cases h
      rw [← hp]; rfl
    · cases hm : mix mp k with
      | none => rw [hm] at h; cases h
      | some r =>
        rw [hm] at h
        cases h
        exact ih hm

theorem ents_modify : ∀ {l : List MapEntry} {mp : List (Int × Value)} {k : Int} {i : Nat} {u : Value} (v : Value), l.map (fun e => (e.key, e.val)) = mp.map kv → mix mp k = some (i, u) →
    (l.modify i fun e => { e with key := .int .i64 k, val := v }).map (fun e => (e.key, e.val)) = (mput mp k v).map kv := by
  intro l
  induction l with
  | nil =>
    intro mp k i u v h hm
    cases mp with
    | nil => cases hm
    | cons p mp => simp at h
  | cons e l ih =>
    intro mp k i u v h hm
    cases mp with
    | nil => cases hm
    | cons p mp =>
      simp only [List.map_cons, List.cons.injEq] at h
      unfold mix at hm
      unfold mput
      by_cases hp : p.1 = k
      · rw [if_pos hp] at hm ⊢
        cases hm
        simp [h.2, kv]
      · rw [if_neg hp] at hm ⊢
        cases hr : mix mp k with
        | none => rw [hr] at hm; cases hm
        | some r =>
          rw [hr] at hm
          cases hm
          simp [ih v h.2 hr, h.1]

theorem ents_erase : ∀ {l : List MapEntry} {mp : List (Int × Value)} {k : Int} {i : Nat} {u : Value}, l.map (fun e => (e.key, e.val)) = mp.map kv → mix mp k = some (i, u) →
    (l.eraseIdx i).map (fun e => (e.key, e.val)) = (mdel mp k).map kv := by
  intro l
  induction l with
  | nil =>
    intro mp k i u h hm
    cases mp with
    | nil => cases hm
    | cons p mp => simp at h
  | cons e l ih =>
    intro mp k i u h hm
    cases mp with
    | nil => cases hm
    | cons p mp =>
      simp only [List.map_cons, List.cons.injEq] at h
      unfold mix at hm
      unfold mdel
      by_cases hp : p.1 = k
      · rw [if_pos hp] at hm ⊢
        cases hm
        simpa using h.2
      · rw [if_neg hp] at hm ⊢
        cases hr : mix mp k with
        | none => rw [hr] at hm; cases hm
        | some r =>
          rw [hr] at hm
          cases hm
          simp [ih h.2 hr, h.1]

theorem mput_none : ∀ {mp : List (Int × Value)} {k : Int} (v : Value), mix mp k = none → mput mp k v = mp ++ [(k, v)] := by
  intro mp
  induction mp with
  | nil => intros; rfl
  | cons p mp ih =>
    intro k v h
    unfold mix at h
    unfold mput
    split at h
    · cases h
    · rename_i hp
      rw [if_neg hp, ih v (by cases hm : mix mp k with | none => rfl | some r => rw [hm] at h; cases h)]
      rfl
theorem mdel_none : ∀ {mp : List (Int × Value)} {k : Int}, mix mp k = none → mdel mp k = mp := by
  intro mp
  induction mp with
  | nil => intros; rfl
  | cons p mp ih =>
    intro k h
    unfold mix at h
    unfold mdel
    split at h
    · cases h
    · rename_i hp
      rw [if_neg hp, ih (by cases hm : mix mp k with | none => rfl | some r => rw [hm] at h; cases h)]

section
variable {P : Program} {w : World} {es : Array MapEntry} {clock : Nat} {mp : List (Int × Value)} {kt : TypeId} {q : IntKind}

theorem run_checkKey (hk : ∀ w, (underlying kt).run P w = .ok (.int q) w) (b : Bool) (k : Int) : (Instr.checkKey b 10000 kt (.int .i64 k)).run P w = .ok () w := by
  show (Instr.checkKey b (9999 + 1) kt (.int .i64 k)).run P w = _
  unfold Instr.checkKey
  rw [Sem.run_bind, hk w]; rfl

theorem run_findKey (hk : ∀ w, (underlying kt).run P w = .ok (.int q) w) (h : Ents es clock mp) (k : Int) : (Instr.findKey kt (.int .i64 k) es.toList).run P w = .ok (mix mp k) w := by
  unfold Instr.findKey
  rw [Sem.run_bind, hk w]
  simp only [Result.andThen]
  rw [findNow_ents _ _ k 0 h.ents]
  cases mix mp k with
  | none => rfl
  | some r => simp

theorem run_getMap {m : Nat} (hm : w.heap[m]? = some (.map es clock)) : (getObj m).run P w = .ok (.map es clock) w := by
  simp [getObj, Sem.run, hm]
theorem run_setMap {m : Nat} {o : Obj} (hm : w.heap[m]? = some (.map es clock)) : (setObj m o).run P w = .ok () (setBlk w m o) := by
  simp [setObj, Sem.run, hm, setBlk]

theorem run_lookup {t e : TypeId} {m : Nat} {z : Value} (ht : ∀ w, (underlying t).run P w = .ok (.map kt e) w) (hk : ∀ w, (underlying kt).run P w = .ok (.int q) w) (hz : ∀ w, (zeroValue e).run P w = .ok z w)
    (hm : w.heap[m]? = some (.map es clock)) (h : Ents es clock mp) (k : Int) (ok : Bool) :
    (Instr.lookup t (.map (some m)) (.int .i64 k) ok).run P w = .ok (if ok then .tuple #[(mget mp k).getD z, .bool (mget mp k).isSome] else (mget mp k).getD z) w := by
  simp only [Instr.lookup, Sem.run_bind, Sem.run_pure, ht w, run_getMap hm, Result.andThen, run_checkKey hk, run_findKey hk h]
  rw [← mix_get]
  cases mix mp k with
  | none => simp [hz w, Result.andThen]
  | some r => simp

theorem run_mapUpdate {t e : TypeId} {m : Nat} (ht : ∀ w, (underlying t).run P w = .ok (.map kt e) w) (hk : ∀ w, (underlying kt).run P w = .ok (.int q) w)
    (hm : w.heap[m]? = some (.map es clock)) (h : Ents es clock mp) (k : Int) (v : Value) :
    ∃ es' clock', (Instr.mapUpdate t (.map (some m)) (.int .i64 k) v).run P w = .ok () (setBlk w m (.map es' clock')) ∧ Ents es' clock' (mput mp k v) := by
  simp only [Instr.mapUpdate, Sem.run_bind, ht w, run_getMap hm, Result.andThen, run_checkKey hk, run_findKey hk h]
  cases hx : mix mp k with
  | none =>
    refine ⟨es.push { key := .int .i64 k, val := v, born := clock }, clock + 1, run_setMap hm, ?_⟩
    refine ⟨?_, h.keys.mput k v, ?_, ?_⟩
    · rw [mput_none v hx]
      simp [h.ents, kv]
    · rw [Array.toList_push, List.map_append]
      refine List.nodup_append.2 ⟨h.borns, by simp, ?_⟩
      intro a ha b hb e
      obtain ⟨x, hx1, hx2⟩ := List.mem_map.1 ha
      have := h.young x hx1
      simp at hb
      omega
    · intro e he
      rw [Array.toList_push] at he
      rcases List.mem_append.1 he with he | he
      · have := h.young e he; omega
      · simp at he; subst he; simp
  | some r =>
    obtain ⟨i, u⟩ := r
    have hlt := mix_lt hx
    have hes : ∃ e0, es[i]? = some e0 ∧ e0.key = .int .i64 k := by
      have h1 : (es.toList.map (fun e => (e.key, e.val)))[i]? = some (.int .i64 k, u) := by
        rw [h.ents, List.getElem?_map, hlt]; rfl
      rw [List.getElem?_map] at h1
      cases h2 : es.toList[i]? with
      | none => rw [h2] at h1; cases h1
      | some e0 =>
        rw [h2] at h1
        simp at h1
        exact ⟨e0, by simpa using h2, h1.1⟩
    obtain ⟨e0, he0, hk0⟩ := hes
    have hstay : (Instr.keyThatStays (((es[i]?).map (·.key)).getD (.int .i64 k)) (.int .i64 k)).run P w = .ok (.int .i64 k) w := by
      rw [he0]
      simp only [Option.map_some, Option.getD_some, hk0]
      unfold Instr.keyThatStays
      have : Instr.sameBits 10000 (.int .i64 k) (.int .i64 k) = true := by
        show Instr.sameBits (9999 + 1) _ _ = true
        unfold Instr.sameBits
        simp
      rw [if_pos this]; rfl
    simp only [Sem.run_bind, hstay, Result.andThen]
    refine ⟨es.modify i fun e => { e with key := .int .i64 k, val := v }, clock, run_setMap hm, ?_⟩
    have hb : ((es.modify i fun e => { e with key := .int .i64 k, val := v }).toList.map (·.born)) = es.toList.map (·.born) := by
      rw [Array.toList_modify]
      apply List.ext_getElem?
      intro j
      rw [List.getElem?_map, List.getElem?_map, List.getElem?_modify]
      by_cases hj : i = j
      · subst hj; cases es.toList[i]? <;> simp
      · cases es.toList[j]? <;> simp [hj]
    refine ⟨?_, h.keys.mput k v, by rw [hb]; exact h.borns, ?_⟩
    · rw [Array.toList_modify]
      exact ents_modify v h.ents hx
    · intro e he
      have : e.born ∈ es.toList.map (·.born) := by rw [← hb]; exact List.mem_map.2 ⟨e, he, rfl⟩
      obtain ⟨e1, h1, h2⟩ := List.mem_map.1 this
      rw [← h2]; exact h.young e1 h1

theorem run_mapDelete {t e : TypeId} {m : Nat} (ht : ∀ w, (underlying t).run P w = .ok (.map kt e) w) (hk : ∀ w, (underlying kt).run P w = .ok (.int q) w)
    (hm : w.heap[m]? = some (.map es clock)) (h : Ents es clock mp) (k : Int) (ats : Array TypeId) (ha : ats[0]? = some t) (ty : TypeId) :
    ∃ es' clock', (Builtin.delete_ ats ty #[.map (some m), .int .i64 k]).run P w = .ok (.tuple #[]) (setBlk w m (.map es' clock')) ∧ Ents es' clock' (mdel mp k) := by
  unfold Builtin.delete_
  simp only [ha, List.getElem?_toArray, List.getElem?_cons_zero, List.getElem?_cons_succ, Sem.run_bind, ht w, run_getMap hm, Result.andThen, run_checkKey hk, run_findKey hk h]
  cases hx : mix mp k with
  | none =>
    refine ⟨es, clock, ?_, ?_⟩
    · rw [Sem.run_bind, run_setMap hm]; rfl
    · rw [mdel_none hx]; exact h
  | some r =>
    obtain ⟨i, u⟩ := r
    refine ⟨es.eraseIdxIfInBounds i, clock, ?_, ?_⟩
    · rw [Sem.run_bind, run_setMap hm]; rfl
    · have htl : (es.eraseIdxIfInBounds i).toList = es.toList.eraseIdx i := by simp
      refine ⟨?_, h.keys.mdel k, ?_, ?_⟩
      · rw [htl]; exact ents_erase h.ents hx
      · rw [htl]; exact List.Nodup.sublist ((List.eraseIdx_sublist _ _).map _) h.borns
      · intro e he
        rw [htl] at he
        exact h.young e ((List.eraseIdx_sublist _ _).subset he)
end

/-! ### the rules -/
theorem imap_open {m : Nat} {mp : List (Int × Value)} {hs : List Assn} {h0 : Frag} {w0 w : World} {hs1 : List Assn} (t : Take (imap m mp) hs hs1) (i : Inv h0 w0 hs w) :
    ∃ es clock, Ents es clock mp ∧ Inv h0 w0 (pts m (.map es clock) :: hs1) w := by
  obtain ⟨h, s, b, f⟩ := Inv.perm t.perm i
  obtain ⟨h1, h2, a, s2, c, rfl⟩ := s
  unfold imap at a
  obtain ⟨es, clock, e1, e2⟩ := a
  exact ⟨es, clock, e2, ⟨_, ⟨h1, h2, by unfold pts; exact e1, s2, c, rfl⟩, b, f⟩⟩
theorem imap_shut {m : Nat} {mp : List (Int × Value)} {es : Array MapEntry} {clock : Nat} (e : Ents es clock mp) {l : List Assn} {h : Frag} (s : Stars (pts m (.map es clock) :: l) h) : Stars (imap m mp :: l) h := by
  obtain ⟨h1, h2, a, s2, c, rfl⟩ := s
  unfold pts at a
  exact ⟨h1, h2, by unfold imap; exact ⟨es, clock, a, e⟩, s2, c, rfl⟩
theorem imap_new (m : Nat) {l : List Assn} {h : Frag} (s : Stars (pts m (.map #[] 0) :: l) h) : Stars (imap m [] :: l) h :=
  imap_shut (es := #[]) (clock := 0) (mp := []) ⟨rfl, show ([] : List Int).Nodup from List.nodup_nil, List.nodup_nil, by simp⟩ s

/-- What a map's block holds, owned: `In A hs` for reading. -/
theorem Take.keep {A : Assn} {l l' : List Assn} (t : Take A l l') : (A :: l').Perm l := t.perm.symm

section
variable {P : Program} {C : Cx} {hs hs1 : List Assn} {ρ : Env} {d : Option Tmp} {ty : TypeId} {pos : String} {af : Array Edge} {g : Option (Nat × Bool)} {K : Value → List Assn → Prop}
  {x y z : Operand} {v u : Value} {t kt e : TypeId} {q : IntKind} {m : Nat} {mp : List (Int × Value)} {k : Int}

theorem Rd.lookup (ht : ∀ w, (underlying t).run P w = .ok (.map kt e) w) (hk : ∀ w, (underlying kt).run P w = .ok (.int q) w) (hz : ∀ w, (zeroValue e).run P w = .ok u w)
    (h1 : Ev C.n ρ x (.map (some m))) (h2 : Ev C.n ρ y (.int .i64 k)) (tk : Take (imap m mp) hs hs1) (hv : (mget mp k).getD u = v) : Rd P C hs ρ ⟨d, .lookup t x y false, ty, pos, af, g⟩ v :=
  Rd.ex (fun c h => by cases h) (Instr.lookup t (.map (some m)) (.int .i64 k) false) (fun ds => by simp only [execOp, h1 ds, h2 ds]) fun w hi => by
    obtain ⟨es, clock, he, hi'⟩ := imap_open tk hi
    rw [run_lookup ht hk hz (Blk.inv .own hi') he k false, ← hv]; rfl
theorem Rd.lookup2 (ht : ∀ w, (underlying t).run P w = .ok (.map kt e) w) (hk : ∀ w, (underlying kt).run P w = .ok (.int q) w) (hz : ∀ w, (zeroValue e).run P w = .ok u w)
    (h1 : Ev C.n ρ x (.map (some m))) (h2 : Ev C.n ρ y (.int .i64 k)) (tk : Take (imap m mp) hs hs1) : Rd P C hs ρ ⟨d, .lookup t x y true, ty, pos, af, g⟩ (.tuple [(mget mp k).getD u, .bool (mget mp k).isSome].toArray) :=
  Rd.ex (fun c h => by cases h) (Instr.lookup t (.map (some m)) (.int .i64 k) true) (fun ds => by simp only [execOp, h1 ds, h2 ds]) fun w hi => by
    obtain ⟨es, clock, he, hi'⟩ := imap_open tk hi
    rw [run_lookup ht hk hz (Blk.inv .own hi') he k true]; rfl
theorem Rd.lenM {xs : TypeId} (hu : ∀ w, (underlying xs).run P w = .ok (.map kt e) w) (h : Ev C.n ρ x (.map (some m))) (tk : Take (imap m mp) hs hs1) :
    Rd P C hs ρ ⟨d, .call { callee := .builtin .len, args := #[x], argTypes := #[xs] }, ty, pos, af, g⟩ (.int .i64 mp.length) :=
  Rd.of (fun c h => by cases h) fun w hi => by
    obtain ⟨es, clock, he, hi'⟩ := imap_open tk hi
    have hm := Blk.inv .own hi'
    have hl : es.size = mp.length := by
      have := congrArg List.length he.ents
      simpa using this
    show (execOp (act C.n C.ds ρ).eval _).run P w = _
    simp [execOp, resolve, invoke, builtin, Builtin.len_, Sem.run_bind, Result.andThen, hu w, h C.ds, goInt, run_getMap hm, hl]

theorem Ef.mapUpdate (ht : ∀ w, (underlying t).run P w = .ok (.map kt e) w) (hk : ∀ w, (underlying kt).run P w = .ok (.int q) w)
    (h1 : Ev C.n ρ x (.map (some m))) (h2 : Ev C.n ρ y (.int .i64 k)) (h3 : Ev C.n ρ z v) (tk : Take (imap m mp) hs hs1) (kk : K undef (imap m (mput mp k v) :: hs1)) :
    Ef P C hs ρ ⟨d, .mapUpdate t x y z, ty, pos, af, g⟩ K :=
  Ef.ex0 (fun c h => by cases h) (Instr.mapUpdate t (.map (some m)) (.int .i64 k) v) (fun ds => by simp only [execOp, h1 ds, h2 ds, h3 ds]) fun w hi => by
    obtain ⟨es, clock, he, hi'⟩ := imap_open tk hi
    obtain ⟨es', clock', hr, he'⟩ := run_mapUpdate ht hk (Blk.inv .own hi') he k v
    exact ⟨_, _, hr, (hi'.upd .here).mono fun h s => imap_shut he' s, kk⟩
theorem Ef.mapDelete {ats : List TypeId} (ht : ∀ w, (underlying t).run P w = .ok (.map kt e) w) (hk : ∀ w, (underlying kt).run P w = .ok (.int q) w) (ha : ats[0]? = some t)
    (h1 : Ev C.n ρ x (.map (some m))) (h2 : Ev C.n ρ y (.int .i64 k)) (tk : Take (imap m mp) hs hs1) (kk : K (.tuple #[]) (imap m (mdel mp k) :: hs1)) :
    Ef P C hs ρ ⟨d, .call { callee := .builtin .delete, args := #[x, y], argTypes := ats.toArray }, ty, pos, af, g⟩ K := fun w hi => by
  obtain ⟨es, clock, he, hi'⟩ := imap_open tk hi
  obtain ⟨es', clock', hr, he'⟩ := run_mapDelete ht hk (Blk.inv .own hi') he k ats.toArray (by simpa using ha) ty
  refine .inl ⟨_, _, _, .inl ?_, (hi'.upd .here).mono fun h s => imap_shut he' s, kk⟩
  rw [Oper.semAt_eq _ _ _ (fun c h => by cases h)]
  show (execOp (act C.n C.ds ρ).eval _).run P w = _
  simp [execOp, resolve, invoke, builtin, Result.andThen, h1 C.ds, h2 C.ds, hr]
end

end Go.Proofs.Ytfnoaohbjlnkgaa
