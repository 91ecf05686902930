/-
  Slices that are only read, and results of several kinds. No program in it.
-/
import Derived.Test.YtfnoaohbjlnkgaaB3
namespace Go.Proofs.Ytfnoaohbjlnkgaa

/-- In this state the slice at a holds xs, which nobody owns: it may be had as often as is wished. -/
@[irreducible] def rowR (a : Option Addr) (s : Nat) (xs : List (List Value)) : Assn := fun h =>
  Flat s xs ∧ (xs = [] ∨ ∃ (b off : Nat) (cs : List Value) (e : TypeId) (fr : Nat × Nat), a = some ⟨b, off, none⟩ ∧ h b = some (false, .cells cs.toArray e fr) ∧ (cs.drop off).take (xs.length * s) = xs.flatten)

theorem SIn.rowR {hs hs1 : List Assn} {a s xs} (t : Take (rowR a s xs) hs hs1) : SIn hs a s xs := by
  rintro h0 w0 w i
  obtain ⟨h, ⟨h1, h2, p, q, c, rfl⟩, b, f⟩ := Inv.perm t.perm i
  unfold Proofs.Ytfnoaohbjlnkgaa.rowR at p
  obtain ⟨hf, rfl | ⟨bk, off, cs, e, fr, rfl, hb, hx⟩⟩ := p
  · exact ⟨hf, fun h => absurd h (Nat.lt_irrefl 0)⟩
  · exact ⟨hf, fun _ => ⟨bk, off, cs, e, fr, rfl, b.left bk false _ hb, hx⟩⟩

theorem rowR_pick {A : Assn} {a s xs} (hA : ∀ h, A h → rowR a s xs h) {l : List Assn} {h : Frag} (st : Stars (A :: l) h) : Stars (rowR a s xs :: A :: l) h := by
  obtain ⟨h1, h2, p0, q, c, rfl⟩ := st
  have p := hA h1 p0
  unfold rowR at p
  obtain ⟨hf, rfl | ⟨bk, off, cs, e, fr, rfl, hb, hx⟩⟩ := p
  · refine ⟨fun _ => none, jn h1 h2, by unfold rowR; exact ⟨hf, .inl rfl⟩, ⟨h1, h2, p0, q, c, rfl⟩, fun _ => .inl rfl, by funext b; rfl⟩
  · have hj : jn h1 h2 bk = some (false, .cells cs.toArray e fr) := by unfold jn; rw [hb]; rfl
    refine ⟨fun x => if x = bk then some (false, .cells cs.toArray e fr) else none, jn h1 h2, ?_, ⟨h1, h2, p0, q, c, rfl⟩, ?_, ?_⟩
    · unfold rowR
      exact ⟨hf, .inr ⟨bk, off, cs, e, fr, rfl, if_pos rfl, hx⟩⟩
    · intro x
      by_cases hxb : x = bk
      · subst hxb
        exact .inr (.inr ⟨by rw [hj]; exact if_pos rfl, _, if_pos rfl⟩)
      · exact .inl (if_neg hxb)
    · funext x
      by_cases hxb : x = bk
      · subst hxb
        rw [hj]
        show _ = jn _ _ _
        simp [jn]
      · show jn h1 h2 x = (if x = bk then _ else none).or (jn h1 h2 x)
        rw [if_neg hxb]
        rfl

theorem rowR_dup {a s xs} {l : List Assn} {h : Frag} (st : Stars (rowR a s xs :: l) h) : Stars (rowR a s xs :: rowR a s xs :: l) h := rowR_pick (fun _ h => h) st

theorem rowR_take {a s k xs} {l : List Assn} {h : Frag} (st : Stars (rowR a s xs :: l) h) : Stars (rowR a s (xs.take k) :: l) h := by
  obtain ⟨h1, h2, p, q, c, rfl⟩ := st
  refine ⟨h1, h2, ?_, q, c, rfl⟩
  unfold rowR at p ⊢
  obtain ⟨hf, hp⟩ := p
  refine ⟨fun x hx => hf x (List.mem_of_mem_take hx), ?_⟩
  rcases hp with rfl | ⟨bk, off, cs, e, fr, rfl, hb, hx⟩
  · exact .inl (by simp)
  · refine .inr ⟨bk, off, cs, e, fr, rfl, hb, ?_⟩
    have hft : (xs.take k).flatten = xs.flatten.take ((xs.take k).length * s) := by
      have h1 : xs.flatten = (xs.take k).flatten ++ (xs.drop k).flatten := by rw [← List.flatten_append, List.take_append_drop]
      have h2 : (xs.take k).flatten.length = (xs.take k).length * s := Flat.length fun x hx => hf x (List.mem_of_mem_take hx)
      rw [h1, ← h2, List.take_left]
    rw [hft, ← hx, List.take_take]
    congr 1
    have : (xs.take k).length ≤ xs.length := by rw [List.length_take]; omega
    have := Nat.mul_le_mul_right s this
    omega

theorem rowR_nil (a : Option Addr) (s : Nat) {l : List Assn} {h : Frag} (t : Stars l h) : Stars (rowR a s [] :: l) h :=
  ⟨fun _ => none, h, by unfold rowR; exact ⟨(by intro x hx; cases hx), .inl rfl⟩, t, fun _ => .inl rfl, by funext b; rfl⟩

/-- What was owned is given up. -/
theorem Inv.demote {h0 : Frag} {w0 w : World} {a cap e s xs} {hs hs1 : List Assn} (t : Take (row a cap e s xs) hs hs1) (i : Inv h0 w0 hs w) : Inv h0 w0 (rowR a s xs :: hs1) w := by
  obtain ⟨h, ⟨h1, h2, p, q, c, rfl⟩, b, f⟩ := Inv.perm t.perm i
  unfold row at p
  obtain ⟨hf, ⟨rfl, rfl, rfl⟩ | ⟨bk, cs, lo, hi, rfl, hb, r1, r2, r3, r4, r5⟩⟩ := p
  · exact ⟨_, ⟨h1, h2, by unfold rowR; exact ⟨hf, .inl rfl⟩, q, c, rfl⟩, b, f⟩
  · have h2b : h2 bk = none := by
      rcases c bk with x | x | ⟨x, o, y⟩
      · rw [hb] at x; cases x
      · exact x
      · rw [hb] at y; cases y
    have hjx : ∀ x, x ≠ bk → jn (fun x => if x = bk then some (false, Obj.cells cs.toArray e (lo, hi)) else h1 x) h2 x = jn h1 h2 x := by
      intro x hx
      unfold jn
      simp [hx]
    have hjb : jn (fun x => if x = bk then some (false, Obj.cells cs.toArray e (lo, hi)) else h1 x) h2 bk = some (false, Obj.cells cs.toArray e (lo, hi)) := by
      unfold jn
      simp
    have hjo : jn h1 h2 bk = some (true, Obj.cells cs.toArray e (lo, hi)) := by
      unfold jn
      rw [hb]
      rfl
    refine ⟨jn (fun x => if x = bk then some (false, .cells cs.toArray e (lo, hi)) else h1 x) h2, ⟨_, h2, ?_, q, ?_, rfl⟩, ?_, ?_⟩
    · unfold rowR
      exact ⟨hf, .inr ⟨bk, 0, cs, e, (lo, hi), rfl, if_pos rfl, by rw [List.drop_zero]; exact r5⟩⟩
    · intro x
      by_cases hx : x = bk
      · subst hx; exact .inr (.inl h2b)
      · simp only [hx, if_false]
        exact c x
    · intro x fl o hx
      by_cases hxb : x = bk
      · subst hxb
        rw [hjb] at hx
        cases hx
        exact b x true _ hjo
      · rw [hjx x hxb] at hx
        exact b x fl o hx
    · refine ⟨f.os, f.tape, f.output, f.size, f.keep, ?_, ?_⟩
      · rintro x ⟨o, hx⟩
        by_cases hxb : x = bk
        · subst hxb
          rw [hjb] at hx
          cases hx
        · rw [hjx x hxb] at hx
          exact f.own x ⟨o, hx⟩
      · intro x hx
        by_cases hxb : x = bk
        · subst hxb
          exact f.dom x (by rw [hjo]; simp)
        · rw [hjx x hxb] at hx
          exact f.dom x hx

section
variable {P : Program} {C : Cx} {Q : Exit → Act → World → Prop} {ρ : Env} {hs hs1 : List Assn} {a : Option Addr} {cap e s : Nat} {xs : List (List Value)}
theorem J.demote {c : Code} (t : Take (row a cap e s xs) hs hs1) (k : J P C c Q ρ (rowR a s xs :: hs1)) : J P C c Q ρ hs := fun w i => k w (i.demote t)
theorem At.demote {ex : Exit} (t : Take (row a cap e s xs) hs hs1) (k : At C Q ex ρ (rowR a s xs :: hs1)) : At C Q ex ρ hs := fun w i => k w (i.demote t)
theorem J.dup {c : Code} (t : Take (rowR a s xs) hs hs1) (k : J P C c Q ρ (rowR a s xs :: rowR a s xs :: hs1)) : J P C c Q ρ hs := J.weak (fun _ st => rowR_dup (Stars.perm t.perm st)) k
theorem At.dup {ex : Exit} (t : Take (rowR a s xs) hs hs1) (k : At C Q ex ρ (rowR a s xs :: rowR a s xs :: hs1)) : At C Q ex ρ hs := At.weak (fun _ st => rowR_dup (Stars.perm t.perm st)) k
end

theorem J.newMap {P : Program} {C : Cx} {Q : Exit → Act → World → Prop} {ρ : Env} {hs hs1 : List Assn} {c : Code} {m : Nat} (t : Take (pts m (.map #[] 0)) hs hs1) (k : J P C c Q ρ (imap m [] :: hs1)) : J P C c Q ρ hs := J.weak (fun _ st => imap_new m (Stars.perm t.perm st)) k
theorem J.takeR {P : Program} {C : Cx} {Q : Exit → Act → World → Prop} {ρ : Env} {hs hs1 : List Assn} {c : Code} {a : Option Addr} {l : List UInt8} (k : Nat) (t : Take (rowR a 1 (b1s l)) hs hs1) (q : J P C c Q ρ (rowR a 1 (b1s (l.take k)) :: hs1)) : J P C c Q ρ hs := J.weak (fun _ st => by
  have := rowR_take (k := k) (Stars.perm t.perm st)
  rwa [show (b1s l).take k = b1s (l.take k) by simp [b1s, List.map_take]] at this) q

/-! ### several results -/
inductive RVs (P : Program) (C : Cx) (ρ : Env) (hs : List Assn) : List ResultVar → List Value → Prop
  | nil : RVs P C ρ hs [] []
  | tmp {t v rs vs} : Ev C.n ρ (.tmp t) v → RVs P C ρ hs rs vs → RVs P C ρ hs (.tmp t :: rs) (v :: vs)
  | agg {p t b s cs e fr rs vs} : (∀ w, (isAgg t).run P w = .ok true w) → (∀ w, (sizeOf t).run P w = .ok s w) → Ev C.n ρ (.tmp p) (.pointer (some ⟨b, 0, none⟩)) → Blk b (.cells (List.toArray cs) e fr) hs → cs.length = s → RVs P C ρ hs rs vs →
      RVs P C ρ hs (.cell p t :: rs) (.agg cs.toArray :: vs)
  | one {p t b v e fr rs vs} : (∀ w, (isAgg t).run P w = .ok false w) → Ev C.n ρ (.tmp p) (.pointer (some ⟨b, 0, none⟩)) → Blk b (.cells [v].toArray e fr) hs → RVs P C ρ hs rs vs →
      RVs P C ρ hs (.cell p t :: rs) (v :: vs)

theorem RVs.run {P : Program} {C : Cx} {ρ : Env} {hs : List Assn} {rs : List ResultVar} {vs : List Value} (h : RVs P C ρ hs rs vs) {w : World} (hi : C.inv hs w) {f : ResultVar → Sem Value} (hf1 : ∀ t, f (.tmp t) = pure ((C.act ρ).tmps.getD t undef)) (hf2 : ∀ a t, f (.cell a t) = (do loadVar t (← asAddr ((C.act ρ).tmps.getD a undef)))) :
    (rs.mapM f).run P w = .ok vs w := by
  induction h with
  | nil => rfl
  | @tmp t v rs vs hv _ ih =>
    have h1 := getD_act (ds := C.ds) hv
    have h1' : (C.act ρ).tmps.getD t undef = v := h1
    rw [List.mapM_cons, hf1]
    simp only [Sem.run_bind, Sem.run_pure, Result.andThen, ih, h1']
  | @agg p t b s cs e fr rs vs ht hz hp hb hl _ ih =>
    have h1 : (C.act ρ).tmps.getD p undef = _ := getD_act (ds := C.ds) hp
    have h2 : (loadVar t ⟨b, 0, none⟩).run P w = .ok (.agg cs.toArray) w := by
      simp only [loadVar, Sem.run_bind, Sem.run_pure, ht w, hz w, Result.andThen, if_true, run_loadRow (off := 0) (vs := cs) (hb.inv hi) (by rw [List.drop_zero, ← hl, List.take_length]) hl]
    rw [List.mapM_cons, hf2]
    have ha : asAddr (.pointer (some ⟨b, 0, none⟩)) = pure ⟨b, 0, none⟩ := rfl
    simp only [Sem.run_bind, Sem.run_pure, Result.andThen, h1, ha, h2, ih]
  | @one p t b v e fr rs vs ht hp hb _ ih =>
    have h1 : (C.act ρ).tmps.getD p undef = _ := getD_act (ds := C.ds) hp
    have hc : w.cell? ⟨b, 0, none⟩ = some v := (cell_of (hb.inv hi)).trans rfl
    have h2 : (loadVar t ⟨b, 0, none⟩).run P w = .ok v w := by
      simp only [loadVar, Sem.run_bind, Sem.run_pure, ht w, Result.andThen]
      simp [load, Sem.run, hc]
    rw [List.mapM_cons, hf2]
    have ha : asAddr (.pointer (some ⟨b, 0, none⟩)) = pure ⟨b, 0, none⟩ := rfl
    simp only [Sem.run_bind, Sem.run_pure, Result.andThen, h1, ha, h2, ih]

theorem ResV.many {P : Program} {C : Cx} {fn : Func} {ρ : Env} {hs : List Assn} {rs : List ResultVar} {vs : List Value} (h : fn.results = rs.toArray) (hv : RVs P C ρ hs rs vs) (hn : vs.length ≠ 1) : ResV P C fn ρ hs (.tuple vs.toArray) := fun w hi => by
  unfold results
  rw [h, List.mapM_toArray]
  have hm : ∀ (m : Sem (List Value)), m.run P w = .ok vs w → (List.toArray <$> m).run P w = .ok vs.toArray w := fun m e => by
    have : (List.toArray <$> m) = (m >>= fun a => pure a.toArray) := rfl
    rw [this, Sem.run_bind, e]
    rfl
  rw [Sem.run_bind, hm _ (hv.run hi (fun _ => rfl) (fun _ _ => rfl))]
  simp [Result.andThen, hn]

/-! ### bits; single bytes of strings -/
section
variable {P : Program} {C : Cx} {hs hs1 : List Assn} {ρ : Env} {d : Option Tmp} {ty : TypeId} {pos : String} {af : Array Edge} {g : Option (Nat × Bool)} {K : Value → List Assn → Prop}
  {x y z : Operand} {v : Value} {t t' e : TypeId} {l : List UInt8} {k : IntKind} {i : Int} {b c : UInt8}

theorem ofInt_u8 (b : UInt8) : BitVec.ofInt IntKind.u8.bits (b.toNat : Int) = b.toBitVec := by
  apply BitVec.eq_of_toNat_eq
  rw [BitVec.toNat_ofInt]
  have := b.toNat_lt
  have h8 : ((2 ^ IntKind.u8.bits : Nat) : Int) = 256 := by decide
  rw [h8]
  show ((b.toNat : Int) % 256).toNat = b.toNat
  omega
theorem Rd.xor8 (h1 : Ev C.n ρ x (.int .u8 (b.toNat : Int))) (h2 : Ev C.n ρ y (.int .u8 (c.toNat : Int))) : Rd P C hs ρ ⟨d, .binOp .xor t x y t', ty, pos, af, g⟩ (.int .u8 ((b ^^^ c).toNat : Int)) :=
  Rd.bin h1 h2 fun w => by
    show (Op.intBits .xor .u8 (b.toNat : Int) (c.toNat : Int)).run P w = _
    have e : IntKind.u8.wrap (((b.toBitVec ^^^ c.toBitVec : BitVec 8).toNat : Nat) : Int) = ((b ^^^ c).toNat : Int) := by
      have h : (b.toBitVec ^^^ c.toBitVec).toNat = (b ^^^ c).toNat := rfl
      rw [h]
      have := (b ^^^ c).toNat_lt
      exact w8 (by omega) (by omega)
    simp only [Op.intBits, ofInt_u8]
    show Result.ok (Value.int .u8 (IntKind.u8.wrap (((b.toBitVec ^^^ c.toBitVec : BitVec 8).toNat : Nat) : Int))) w = _
    rw [e]
theorem wrap_u8 (n : Nat) : IntKind.u8.wrap (n : Int) = ((UInt8.ofNat n).toNat : Int) := by
  have : (UInt8.ofNat n).toNat = n % 256 := UInt8.toNat_ofNat'
  rw [this]
  simp only [IntKind.wrap, IntKind.bits, IntKind.signed]
  simp
theorem Rd.conv8 {n : Nat} (h : Ev C.n ρ x (.int k (n : Int))) (hs' : ∀ w, ∃ dsc, (underlying t).run P w = .ok dsc w) (hu : ∀ w, (underlying t').run P w = .ok (.int .u8) w) :
    Rd P C hs ρ ⟨d, .convert t t' x, ty, pos, af, g⟩ (.int .u8 ((UInt8.ofNat n).toNat : Int)) := by
  have := Rd.convW (P := P) (C := C) (hs := hs) (d := d) (ty := ty) (pos := pos) (af := af) (g := g) h hs' hu
  rwa [wrap_u8] at this
theorem Rd.add8 (h1 : Ev C.n ρ x (.int .u8 (b.toNat : Int))) (h2 : Ev C.n ρ y (.int .u8 (c.toNat : Int))) : Rd P C hs ρ ⟨d, .binOp .add t x y t', ty, pos, af, g⟩ (.int .u8 ((b + c).toNat : Int)) := by
  have := Rd.addW (P := P) (C := C) (hs := hs) (d := d) (ty := ty) (pos := pos) (af := af) (g := g) (t := t) (t' := t') h1 h2
  have e : (b.toNat : Int) + (c.toNat : Int) = ((b.toNat + c.toNat : Nat) : Int) := by omega
  rw [e, wrap_u8] at this
  have e2 : UInt8.ofNat (b.toNat + c.toNat) = b + c := by
    apply UInt8.toNat_inj.1
    rw [UInt8.toNat_ofNat', UInt8.toNat_add]
  rwa [e2] at this
theorem Rd.strIdx (hu : ∀ w, (underlying t).run P w = .ok .string w) (h : Ev C.n ρ x (str l)) (hy : Ev C.n ρ y (.int k i)) (h0 : 0 ≤ i) (h1 : i < l.length) : Rd P C hs ρ ⟨d, .index t x y, ty, pos, af, g⟩ (.int .u8 ((l.getD i.toNat 0).toNat : Int)) :=
  Rd.ex (fun c h => by cases h) (Instr.index t (str l) (.int k i)) (fun ds => by simp only [execOp, h ds, hy ds]) fun w _ => by
    have hl : i.toNat < l.length := by omega
    have hs : (⟨l.toArray⟩ : ByteArray)[i.toNat]? = some l[i.toNat] := by
      have hlt : i.toNat < (⟨l.toArray⟩ : ByteArray).size := by rw [str_size]; exact hl
      rw [getElem?_pos (⟨l.toArray⟩ : ByteArray) i.toNat hlt]
      rfl
    simp only [Instr.index, str, Sem.run_bind, asIntOf, Sem.run_pure, hu w, Result.andThen, h0, if_true, hs]
    simp [hl]
theorem Rd.convU64 (h : Ev C.n ρ x (.int k i)) (hs' : ∀ w, ∃ dsc, (underlying t).run P w = .ok dsc w) (hu : ∀ w, (underlying t').run P w = .ok (.int .u64) w) :
    Rd P C hs ρ ⟨d, .convert t t' x, ty, pos, af, g⟩ (.int .u64 (i % 18446744073709551616)) := by
  have := Rd.convW (P := P) (C := C) (hs := hs) (d := d) (ty := ty) (pos := pos) (af := af) (g := g) h hs' hu
  have e : IntKind.u64.wrap i = i % 18446744073709551616 := by simp [IntKind.wrap, IntKind.bits, IntKind.signed]
  rwa [e] at this
/-- 's[:i]' of a slice. -/
theorem Rd.slTo {a : Option Addr} {n cap s : Nat} (hu : ∀ w, (underlying t).run P w = .ok (.slice e) w) (hz : ∀ w, (sizeOf e).run P w = .ok s w) (h : Ev C.n ρ x (.slice a n cap)) (hy : Ev C.n ρ y (.int k i)) (h0 : 0 ≤ i) (h1 : i ≤ cap) :
    Rd P C hs ρ ⟨d, .slice t x none (some y) none, ty, pos, af, g⟩ (.slice a i.toNat cap) :=
  Rd.ex (fun c h => by cases h) (Instr.sliceAt t (.slice a n cap) none (some (.int k i)) none) (fun ds => by simp only [execOp, h ds, hy ds, Option.map_none, Option.map_some]) fun w _ => by
    have ha : (a.map fun ad => ad.add (0 * s)) = a := by
      rw [Nat.zero_mul]
      cases a with
      | none => rfl
      | some ad => cases ad; simp [Addr.add]
    simp only [Instr.sliceAt, Instr.slice, Sem.run_bind, hu w, Result.andThen, Instr.sliceBounds, Sem.run_pure, Instr.sliceBound, asIntOf, h0, h1, and_self, if_true, hz w, ha, Nat.sub_zero, ite_self]
/-- An element of an array inside an element of a slice. -/
theorem Rd.sIdxA {a : Option Addr} {s j p n : Nat} {xs : List (List Value)} (hu : ∀ w, (underlying t).run P w = .ok (.array n e) w) (hz : ∀ w, (sizeOf e).run P w = .ok 1 w) (h : Ev C.n ρ x (eadr a s j p)) (hy : Ev C.n ρ y (.int k i)) (hin : SIn hs a s xs) (hj : j < xs.length)
    (h0 : 0 ≤ i) (h1 : i < n) : Rd P C hs ρ ⟨d, .indexAddr t x y, ty, pos, af, g⟩ (eadr a s j (p + i.toNat)) :=
  Rd.ex (fun c h => by cases h) (Instr.indexAt t (eadr a s j p) (.int k i)) (fun ds => by simp only [execOp, h ds, hy ds]) fun w hi => by
    obtain ⟨b, off, cs, e', fr, rfl, _, _⟩ := (hin _ _ w hi).2 (by omega)
    have ha : (j * s + p + i.toNat) = (j * s + (p + i.toNat)) := by omega
    simp [Instr.indexAt, Instr.sureAddr, asIntOf, Sem.run_bind, hu w, hz w, Result.andThen, h0, h1, eadr, add_off, Nat.add_assoc]
end

/-- One byte of a string is changed. -/
def flipB (s : List UInt8) (j : Nat) (c : UInt8) : List UInt8 := s.set j (s.getD j 0 ^^^ c)
@[simp] theorem flipB_length (s : List UInt8) (j : Nat) (c : UInt8) : (flipB s j c).length = s.length := by simp [flipB]
theorem flipB_eq {s : List UInt8} {j : Nat} {c : UInt8} (h : j < s.length) : s.take j ++ [s.getD j 0 ^^^ c] ++ s.drop (j + 1) = flipB s j c := by
  unfold flipB
  rw [List.set_eq_take_append_cons_drop, if_pos h]
  simp

end Go.Proofs.Ytfnoaohbjlnkgaa
