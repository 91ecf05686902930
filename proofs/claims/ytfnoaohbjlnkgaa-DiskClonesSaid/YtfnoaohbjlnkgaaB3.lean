/-
  Rows of bytes, nil compared, interfaces, copy. No program in it.
-/
import Derived.Test.YtfnoaohbjlnkgaaB2
import Derived.Laws.Externs
namespace Go.Proofs.Ytfnoaohbjlnkgaa

theorem J.openT {P : Program} {C : Cx} {Q : Exit → Act → World → Prop} {ρ : Env} {hs hs1 : List Assn} {A : Assn} {c : Code} {X : Type} {p : X → Prop} {L : X → List Assn} (t : Take A hs hs1) (hA : ∀ h, A h → ∃ x, p x ∧ Stars (L x) h)
    (k : ∀ x, p x → J P C c Q ρ (L x ++ hs1)) : J P C c Q ρ hs := fun w i => (J.openA hA k) w (Inv.perm t.perm i)

theorem J.know {P : Program} {C : Cx} {Q : Exit → Act → World → Prop} {ρ : Env} {hs : List Assn} {c : Code} {p : Prop} (hp : ∀ h, Stars hs h → p) (k : p → J P C c Q ρ hs) : J P C c Q ρ hs := fun w i =>
  let ⟨_, s, _⟩ := i; k (hp _ s) w i
theorem At.know {C : Cx} {Q : Exit → Act → World → Prop} {e : Exit} {ρ : Env} {hs : List Assn} {p : Prop} (hp : ∀ h, Stars hs h → p) (k : p → At C Q e ρ hs) : At C Q e ρ hs := fun w i =>
  let ⟨_, s, _⟩ := i; k (hp _ s) w i
theorem JL.live {P : Program} {C : Cx} {ops : Array Oper} {Q : Exit → Act → World → Prop} {rest : List Oper} {ρ : Env} {hs : List Assn} {K : List (Nat × Value)} (hl : Has K ρ) (h : ∀ ρ', JL P C ops Q rest (ext K ρ') hs) : JL P C ops Q rest ρ hs := by
  have := h ρ
  rwa [ext_has hl] at this
theorem Ef.csq {P : Program} {C : Cx} {hs : List Assn} {ρ : Env} {o : Oper} {K : Value → List Assn → Prop} (h : Ef P C hs ρ o fun u l' => ∃ l'', (∀ h, Stars l' h → Stars l'' h) ∧ K u l'') : Ef P C hs ρ o K := by
  intro w hi
  rcases h w hi with ⟨u, hs', w', hr, hi2, l'', hl, hk⟩ | ⟨f, ar, w', hr, hp⟩ | ⟨l0, fn, tm, as, bo, w', hr, hp⟩
  · exact .inl ⟨u, l'', w', hr, hi2.mono hl, hk⟩
  · refine .inr (.inl ⟨f, ar, w', hr, hp.mono ?_⟩)
    rintro e' w2 ⟨u, hs', he, hi2, l'', hl, hk⟩
    exact ⟨u, l'', he, hi2.mono hl, hk⟩
  · refine .inr (.inr ⟨l0, fn, tm, as, bo, w', hr, hp.mono ?_⟩)
    rintro e' w2 ⟨u, hs', he, hi2, l'', hl, hk⟩
    exact ⟨u, l'', he, hi2.mono hl, hk⟩

/-! ### bytes -/
def b1s (l : List UInt8) : List (List Value) := l.map fun c => [.int .u8 (c.toNat : Int)]
@[simp] theorem b1s_length (l : List UInt8) : (b1s l).length = l.length := by simp [b1s]
theorem b1s_flatten (l : List UInt8) : (b1s l).flatten = bv l := by
  induction l with
  | nil => rfl
  | cons c l ih =>
    show [_] ++ (b1s l).flatten = _
    rw [ih]; rfl
theorem b1s_flat (l : List UInt8) : Flat 1 (b1s l) := by
  intro x hx
  obtain ⟨c, _, rfl⟩ := List.mem_map.1 hx
  rfl
theorem b1s_get {l : List UInt8} {i : Nat} {c : UInt8} (h : l[i]? = some c) : (b1s l)[i]? = some [.int .u8 (c.toNat : Int)] := by simp [b1s, h]
theorem b1s_set (l : List UInt8) (i : Nat) (c : UInt8) : (b1s l).set i [.int .u8 (c.toNat : Int)] = b1s (l.set i c) := by simp [b1s, List.map_set]

/-- A slice of bytes that is owned. Its value is `.slice a l.length cap`. -/
@[irreducible] def bytesA (a : Option Addr) (cap : Nat) (l : List UInt8) : Assn := fun h => ∃ e, row a cap e 1 (b1s l) h

theorem bytes_open {a cap l} {hs hs1 : List Assn} {h0 : Frag} {w0 w : World} (t : Take (bytesA a cap l) hs hs1) (i : Inv h0 w0 hs w) : ∃ e, Inv h0 w0 (row a cap e 1 (b1s l) :: hs1) w := by
  obtain ⟨h, ⟨h1, h2, p, q, c, rfl⟩, b, f⟩ := Inv.perm t.perm i
  unfold bytesA at p
  obtain ⟨e, p⟩ := p
  exact ⟨e, _, ⟨h1, h2, p, q, c, rfl⟩, b, f⟩
theorem bytes_shut {a cap l e} {hs : List Assn} {h : Frag} (s : Stars (row a cap e 1 (b1s l) :: hs) h) : Stars (bytesA a cap l :: hs) h := by
  obtain ⟨h1, h2, p, q, c, rfl⟩ := s
  exact ⟨h1, h2, by unfold bytesA; exact ⟨e, p⟩, q, c, rfl⟩
theorem J.openBytes {P : Program} {C : Cx} {Q : Exit → Act → World → Prop} {ρ : Env} {hs hs1 : List Assn} {c : Code} {a cap l} (t : Take (bytesA a cap l) hs hs1) (k : ∀ e, J P C c Q ρ (row a cap e 1 (b1s l) :: hs1)) : J P C c Q ρ hs := fun w i => by
  obtain ⟨e, i'⟩ := bytes_open t i
  exact k e w i'
theorem SIn.bytes {hs hs1 : List Assn} {a cap l} (t : Take (bytesA a cap l) hs hs1) : SIn hs a 1 (b1s l) := fun h0 w0 w i => by
  obtain ⟨e, i'⟩ := bytes_open t i
  exact SIn.row .here h0 w0 w i'
theorem bytes_mk {b cap lo hi : Nat} {e : TypeId} {l : List UInt8} {hs : List Assn} {h : Frag} {cs : List Value} (hfr : hi ≤ lo ∨ cap ≤ lo) (hc : cs.length = cap) (hl : l.length ≤ cap) (hm : cap ≤ maxLen) (ht : cs.take l.length = bv l)
    (s : Stars (pts b (.cells cs.toArray e (lo, hi)) :: hs) h) : Stars (bytesA (some ⟨b, 0, none⟩) cap l :: hs) h :=
  bytes_shut (row_mk (e := e) (cs := cs) (b1s_flat l) (by rw [Nat.mul_one]; exact hfr) (by rw [Nat.mul_one]; exact hc) (by rw [b1s_length]; exact hl) hm (by rw [b1s_length, Nat.mul_one, b1s_flatten]; exact ht) s)
theorem bytes_nil {hs : List Assn} {h : Frag} (s : Stars hs h) : Stars (bytesA none 0 [] :: hs) h := bytes_shut (e := 0) (row_nil 0 1 s)
/-- A whole block of bytes. -/
theorem fill_step {x n : Nat} {c : UInt8} (h : x < n) : (List.replicate x c ++ List.replicate (n - x) 0).set x c = List.replicate (x + 1) c ++ List.replicate (n - (x + 1)) 0 := by
  rw [List.set_append_right _ _ (by simp)]
  simp only [List.length_replicate, Nat.sub_self]
  rw [show n - x = n - (x + 1) + 1 by omega, List.replicate_succ, List.set_cons_zero, List.replicate_succ' (n := x), List.append_assoc]
  rfl
theorem bytes_all {b : Nat} {e : TypeId} {l : List UInt8} {hs : List Assn} {h : Frag} {n : Nat} (hn : l.length = n) (hm : n ≤ maxLen) (s : Stars (pts b (.cells (bv l).toArray e) :: hs) h) : Stars (bytesA (some ⟨b, 0, none⟩) n l :: hs) h :=
  bytes_mk (lo := 0) (hi := 0) (.inl (Nat.le_refl _)) (by simp [hn]) (by omega) hm (by rw [← bv_length, List.take_length]) s

section
variable {P : Program} {C : Cx} {hs hs1 : List Assn} {ρ : Env} {d : Option Tmp} {ty : TypeId} {pos : String} {af : Array Edge} {g : Option (Nat × Bool)} {K : Value → List Assn → Prop}
  {x y : Operand} {v : Value} {t t' e : TypeId} {i cap n : Nat} {a : Option Addr} {l : List UInt8} {c : UInt8}

theorem Rd.byIdx {k : IntKind} {j : Int} (hu : ∀ w, (underlying t).run P w = .ok (.slice e) w) (hz : ∀ w, (sizeOf e).run P w = .ok 1 w) (h : Ev C.n ρ x (.slice a n cap)) (hj : Ev C.n ρ y (.int k j))
    (hin : SIn hs a 1 (b1s l)) (hn : l.length = n) (h0 : 0 ≤ j) (h1 : j < n) : Rd P C hs ρ ⟨d, .indexAddr t x y, ty, pos, af, g⟩ (eadr a 1 j.toNat 0) := by
  subst hn
  exact Rd.sIdx (cap := cap) hu hz h hj hin (b1s_length l) h0 h1
theorem Rd.byLd (ht : ∀ w, (isAgg t).run P w = .ok false w) (h : Ev C.n ρ x (eadr a 1 i 0)) (hin : SIn hs a 1 (b1s l)) (hc : i < l.length) : Rd P C hs ρ ⟨d, .load t x, ty, pos, af, g⟩ (.int .u8 ((l.getD i 0).toNat : Int)) :=
  Rd.sLd ht h hin (b1s_get (c := l.getD i 0) (by simp [hc])) rfl
theorem Ef.bySt (hz : ∀ w, (sizeOf t).run P w = .ok 1 w) (h : Ev C.n ρ x (eadr a 1 i 0)) (hy : Ev C.n ρ y (.int .u8 (c.toNat : Int))) (tk : Take (bytesA a cap l) hs hs1) (hi : i < l.length) (k : K undef (bytesA a cap (l.set i c) :: hs1)) :
    Ef P C hs ρ ⟨d, .store t x y, ty, pos, af, g⟩ K := fun w hi' => by
  obtain ⟨e, i'⟩ := bytes_open tk hi'
  have hg := b1s_get (List.getElem?_eq_getElem hi)
  refine Ef.sStG (e := e) (cap := cap) (hs1 := hs1) (vs := [.int .u8 (c.toNat : Int)]) (hs := row a cap e 1 (b1s l) :: hs1) hz h hy rfl rfl (by simp [Value.oneCell']) (fun w i => i) hg (Nat.le_refl _) (fun h s => bytes_shut (e := e) ?_) k w i'
  rw [← b1s_set]
  exact s

/-- 'make([]byte, n)'. -/
theorem Ef.mkbytes {i : TypeInfo} (hu : ∀ w, (underlying t).run P w = .ok (.slice e) w) (hi : ∀ w, (typeInfo e).run P w = .ok i w) (hz : ∀ w, (sizeOf e).run P w = .ok 1 w) (hzv : ∀ w, (zeroValue e).run P w = .ok (.int .u8 0) w)
    (h1 : Ev C.n ρ x (.int .i64 n)) (h2 : Ev C.n ρ y (.int .i64 n)) (hb : i.bytes * n ≤ 140737488355328) (hc0 : 0 < n) (hc1 : n ≤ maxLen)
    (k : ∀ b, K (.slice (some ⟨b, 0, none⟩) n n) (bytesA (some ⟨b, 0, none⟩) n (List.replicate n 0) :: hs)) : Ef P C hs ρ ⟨d, .makeSlice t x y, ty, pos, af, g⟩ K := by
  refine Ef.csq (Ef.mkslice hu hi hz hzv rfl h1 h2 (Nat.le_refl _) hb hc0 hc1 fun b => ⟨bytesA (some ⟨b, 0, none⟩) n (List.replicate n 0) :: hs, fun h s => ?_, k b⟩)
  refine bytes_all (l := List.replicate n 0) (e := e) (by simp) hc1 ?_
  have eq : bv (List.replicate n 0) = List.replicate n (Value.int .u8 0) := by unfold bv; exact List.map_replicate
  rw [eq]
  exact s

/-- '[]byte(s)'. -/
theorem Ef.ofStr (hs1 : P.underlying t = some .string) (hd : P.underlying t' = some (.slice e)) (he : P.underlying e = some (.int .u8)) (h : Ev C.n ρ x (str l)) (hl : l.length ≤ maxLen)
    (k : ∀ b cap, K (.slice (some ⟨b, 0, none⟩) l.length cap) (bytesA (some ⟨b, 0, none⟩) cap l :: hs)) : Ef P C hs ρ ⟨d, .convert t t' x, ty, pos, af, g⟩ K :=
  Ef.ex (fun c h => by cases h) (convert t t' (str l)) (fun ds => by simp only [execOp, h ds]) fun w hi => by
    have hr := run_bytes_of_string (P := P) w t t' e ⟨l.toArray⟩ hs1 hd he
    rw [str_size] at hr
    refine ⟨_, _, _, hr, ((Inv.drew hi).alloc _).mono fun h s => ?_, k _ _⟩
    have hge := grownCap_ge w l.length 0 e
    have hb : bytesRow ⟨l.toArray⟩ (grownCap w l.length 0 e) = (bv l ++ List.replicate (grownCap w l.length 0 e - l.length) (Value.int .u8 0)).toArray := by
      unfold bytesRow
      rw [str_size]
      simp [bv]
    rw [hb] at s
    refine bytes_mk (.inr ?_) ?_ hge (grownCap_le_maxLen w l.length 0 e hl) ?_ s
    · simp; omega
    · simp; omega
    · rw [← bv_length, List.take_left]

/-- 'string(b)'. -/
theorem Rd.byStr (hs1 : P.underlying t = some (.slice e)) (he : P.underlying e = some (.int .u8)) (hd : P.underlying t' = some .string) (h : Ev C.n ρ x (.slice a n cap)) (hin : SIn hs a 1 (b1s l)) (hn : l.length = n) :
    Rd P C hs ρ ⟨d, .convert t t' x, ty, pos, af, g⟩ (str l) := by
  subst hn
  exact Rd.ex (fun c h => by cases h) (convert t t' (.slice a l.length cap)) (fun ds => by simp only [execOp, h ds]) fun w hi => by
    cases l with
    | nil =>
      cases a with
      | none =>
        simp [convert, Sem.run_bind, run_underlying hs1, run_underlying he, run_underlying hd, Result.andThen, Conv.bytesToString]
        rfl
      | some a => exact run_convert_bytes_back w t t' e a cap [] hs1 he hd fun j hj => absurd hj (Nat.not_lt_zero _)
    | cons c l =>
      obtain ⟨hf, h2⟩ := hin _ _ w hi
      obtain ⟨b, off, cs, e', fr, rfl, hb, ht⟩ := h2 (by simp)
      refine run_convert_bytes_back w t t' e ⟨b, off, none⟩ cap (c :: l) hs1 he hd fun j hj => ?_
      rw [b1s_flatten, b1s_length, Nat.mul_one] at ht
      have hl : ∀ j v, (bv (c :: l))[j]? = some v → w.cell? ((⟨b, off, none⟩ : Addr).add j) = some v := loads_of hb (by rw [bv_length]; exact ht)
      exact hl j _ (by rw [bv_get, List.getElem?_eq_getElem hj]; rfl)

/-- An array out of the first bytes of a slice. -/
theorem Rd.byArr (ht : ∀ w, (isAgg t).run P w = .ok true w) (hz : ∀ w, (sizeOf t).run P w = .ok n w) (h : Ev C.n ρ x (.pointer a)) (hin : SIn hs a 1 (b1s l)) (hn : l.length = n) (h0 : 0 < n) :
    Rd P C hs ρ ⟨d, .load t x, ty, pos, af, g⟩ (.agg (bv l).toArray) :=
  Rd.ex (fun c h => by cases h) (Instr.loadAt t (.pointer a)) (fun ds => by simp only [execOp, h ds]) fun w hi => by
    obtain ⟨hf, h2⟩ := hin _ _ w hi
    obtain ⟨b, off, cs, e', fr, rfl, hb, ht'⟩ := h2 (by simp; omega)
    rw [b1s_flatten, b1s_length, Nat.mul_one] at ht'
    have hr := run_loadRow (P := P) (off := off) (s := n) (vs := bv l) hb (by rw [← hn]; exact ht') (by rw [bv_length, hn])
    simp only [Instr.loadAt, Instr.sureAddr, loadVar, Sem.run_bind, Sem.run_pure, ht w, hz w, Result.andThen, if_true, hr]

/-! ### against nil; interfaces -/
theorem Rd.slNil {e : TypeId} {m c : Nat} (h1 : Ev C.n ρ x (.slice a m c)) (hu : ∀ w, (underlying t).run P w = .ok (.slice e) w) :
    Rd P C hs ρ ⟨d, .binOp .eql t x (.const (.slice none 0 0)) t', ty, pos, af, g⟩ (.bool a.isNone) := by
  refine Rd.cmp h1 Ev.c (fun w => by unfold eqGuard; rfl) fun w _ => ?_
  show (do pure (Value.bool (← Op.equal t (.slice a m c) (.slice none 0 0))) : Sem Value).run P w = _
  have : (Op.equal t (.slice a m c) (.slice none 0 0)).run P w = .ok a.isNone w := by
    show (Op.equalIn (9999 + 1) t _ _).run P w = _
    unfold Op.equalIn
    rw [Sem.run_bind, hu w]
    cases a <;> rfl
  rw [Sem.run_bind, this]; rfl
theorem Rd.mapNil {kt e : TypeId} {m : Option Nat} (h1 : Ev C.n ρ x (.map m)) (hu : ∀ w, (underlying t).run P w = .ok (.map kt e) w) :
    Rd P C hs ρ ⟨d, .binOp .eql t x (.const (.map none)) t', ty, pos, af, g⟩ (.bool m.isNone) := by
  refine Rd.cmp h1 Ev.c (fun w => by unfold eqGuard; rfl) fun w _ => ?_
  show (do pure (Value.bool (← Op.equal t (.map m) (.map none))) : Sem Value).run P w = _
  have : (Op.equal t (.map m) (.map none)).run P w = .ok m.isNone w := by
    show (Op.equalIn (9999 + 1) t _ _).run P w = _
    unfold Op.equalIn
    rw [Sem.run_bind, hu w]
    cases m <;> rfl
  rw [Sem.run_bind, this]; rfl
theorem Rd.iface {dsc : TypeDesc} (h1 : Ev C.n ρ x v) (hu : ∀ w, (underlying t).run P w = .ok dsc w) (hd : ∀ ms, dsc ≠ .interface ms) : Rd P C hs ρ ⟨d, .makeInterface t x, ty, pos, af, g⟩ (.iface t v) :=
  Rd.ex (fun c h => by cases h) (Instr.makeInterface t v) (fun ds => by simp only [execOp, h1 ds]) fun w _ => by
    simp only [Instr.makeInterface, Sem.run_bind, hu w, Result.andThen]
    cases dsc <;> first | rfl | exact absurd rfl (hd _)
theorem Rd.asMap {kt e xt : TypeId} (h1 : Ev C.n ρ x (.iface t v)) (hu : ∀ w, (underlying t).run P w = .ok (.map kt e) w) : Rd P C hs ρ ⟨d, .typeAssert x xt t false, ty, pos, af, g⟩ v :=
  Rd.ex (fun c h => by cases h) (Instr.typeAssert (.iface t v) xt t false) (fun ds => by simp only [execOp, h1 ds]) fun w _ => by
    simp only [Instr.typeAssert, Sem.run_bind, hu w, Result.andThen, if_true]
    rfl

/-- maps.clone, for which the model stands in. -/
theorem Ef.mapClone {f : FuncId} {fn : Func} {m : Nat} {mp : List (Int × Value)} {ats : Array TypeId} (hf : P.funcs[f]? = some fn) (hname : (fn.name == "runtime.NumGoroutine") = false) (hb : fn.body.isNone = true) (hn : Extern.findNext fn = none) (he : Extern.find fn = some Extern.MapsClone.clone)
    (h1 : Ev C.n ρ x (.iface t (.map (some m)))) (tk : Take (imap m mp) hs hs1) (k : ∀ b, K (.iface t (.map (some b))) (imap b mp :: imap m mp :: hs1)) :
    Ef P C hs ρ ⟨d, .call { callee := .value (.func f), args := #[x], argTypes := ats }, ty, pos, af, g⟩ K := fun w hi => by
  obtain ⟨es, clock, hes, hi'⟩ := imap_open tk hi
  have hm := Blk.inv .own hi'
  refine .inl ⟨.iface t (.map (some w.heap.size)), imap w.heap.size mp :: imap m mp :: hs1, w.alloc (.map es clock), .inl ?_, (hi'.alloc (.map es clock)).mono fun h s => ?_, k _⟩
  · rw [Oper.semAt_eq _ _ _ (fun c h => by cases h)]
    have hev : (act C.n C.ds ρ).eval (.func f) = .func (.func f) #[] #[] := rfl
    show (execOp (act C.n C.ds ρ).eval _).run P w = _
    have hx := h1 C.ds
    simp only [execOp, resolve, hev, Deferred.ofValue]
    simp only [Sem.run_bind, Sem.run_pure, Result.andThen, invoke]
    have hc : (Extern.MapsClone.clone #[.iface t (.map (some m))]).run P w = .ok (.iface t (.map (some w.heap.size))) (w.alloc (.map es clock)) := by
      have e : Extern.MapsClone.clone #[.iface t (.map (some m))] = (getObj m >>= fun o => match o with
          | .map entries clock => (newObj (.map entries clock) >>= fun n => pure (.iface t (.map (some n))))
          | _ => stuck "maps.clone: a map expected") := rfl
      have hg : (getObj m).run P w = .ok (.map es clock) w := by simp [getObj, Sem.run, hm]
      rw [e, Sem.run_bind, hg]
      rfl
    have := run_callFunc_extern (P := P) hf hname hb hn he #[.iface t (.map (some m))] w
    rw [hc] at this
    simpa [hx, Result.andThen] using this
  · refine imap_shut hes ?_
    obtain ⟨h1, h2, a, b, c, rfl⟩ := s
    exact ⟨h1, h2, a, imap_shut hes b, c, rfl⟩

/-- copy between two blocks. -/
theorem Ef.copy {b1 o1 b2 o2 k1 k2 c1 c2 lo hi m : Nat} {cs ds vs : List Value} {e1 e2 : TypeId} {fr : Nat × Nat} {hs' : List Assn} {ats : Array TypeId} (ha : ats[0]? = some t) (hu : ∀ w, (underlying t).run P w = .ok (.slice e) w) (hz : ∀ w, (sizeOf e).run P w = .ok 1 w)
    (h1 : Ev C.n ρ x (.slice (some ⟨b1, o1, none⟩) k1 c1)) (h2 : Ev C.n ρ y (.slice (some ⟨b2, o2, none⟩) k2 c2)) (hr : Rep (pts b1 (.cells cs.toArray e1 (lo, hi))) (pts b1 (.cells (splice cs o1 vs).toArray e1 (lo, hi))) hs hs')
    (hb1 : Blk b1 (.cells cs.toArray e1 (lo, hi)) hs) (hb2 : Blk b2 (.cells ds.toArray e2 fr) hs) (hm : min k2 k1 = m) (hv : (ds.drop o2).take m = vs) (hl : vs.length = m) (ho : ∀ u ∈ vs, u.oneCell' = true) (hl1 : o1 + m ≤ cs.length) (hf : hi ≤ o1 ∨ hi ≤ lo ∨ o1 + m ≤ lo) (hsm : m ≤ 9223372036854775807)
    (k : K (.int .i64 m) hs') : Ef P C hs ρ ⟨d, .call { callee := .builtin .copy, args := #[x, y], argTypes := ats }, ty, pos, af, g⟩ K := fun w hi' => by
  have hst := run_storeRow (P := P) vs (i := 0) (off := o1) (hb1.inv hi') (by rw [hl]; simpa using hf) (by rw [hl]; simpa using hl1) ho
  have hld := run_loadRow (P := P) (hb2.inv hi') hv hl
  rw [Nat.add_zero] at hst
  refine .inl ⟨_, hs', _, .inl ?_, hi'.upd hr, k⟩
  rw [Oper.semAt_eq _ _ _ (fun c h => by cases h)]
  show (execOp (act C.n C.ds ρ).eval _).run P w = _
  simp only [execOp, resolve, invoke, builtin]
  have hmin : Nat.min k2 k1 = m := hm
  have hc : (Builtin.copy_ ats ty #[.slice (some ⟨b1, o1, none⟩) k1 c1, .slice (some ⟨b2, o2, none⟩) k2 c2]).run P w = .ok (.int .i64 m) (setBlk w b1 (.cells (splice cs o1 vs).toArray e1 (lo, hi))) := by
    simp [Builtin.copy_, ha, Sem.run_bind, hu w, hz w, Result.andThen, Builtin.lenOf, hmin, Builtin.firstCells, hld, hst, goInt]
  simp [h1 C.ds, h2 C.ds, hc, Result.andThen]
end

section
variable {P : Program} {C : Cx} {hs hs1 : List Assn} {ρ : Env} {d : Option Tmp} {ty : TypeId} {pos : String} {af : Array Edge} {g : Option (Nat × Bool)} {K : Value → List Assn → Prop}
  {x y : Operand} {v : Value} {t t' e : TypeId} {s bytes : Nat} {zs u : List Value}

/-- The empty literal. -/
theorem Ef.slit0 (E : Elt P t e s bytes zs) (k : ∀ b, K (.slice (some ⟨b, 0, none⟩) 0 0) (row (some ⟨b, 0, none⟩) 0 e s [] :: hs)) : Ef P C hs ρ ⟨d, .buildSlice t 0 #[], ty, pos, af, g⟩ K :=
  Ef.ex (fun c h => by cases h) (Instr.buildSlice t 0 #[]) (fun ds => by simp [execOp]) fun w hi => by
    obtain ⟨i, v, hi1, hz, hsz, hby, hzc⟩ := E.info
    refine ⟨_, w.alloc (.cells #[] e), _, ?_, (hi.alloc (.cells #[] e)).mono fun h st => row_mk (xs := []) (cs := []) (lo := 0) (hi := 0) (fun x hx => by cases hx) (.inl (Nat.le_refl _)) (by simp) (Nat.le_refl _) (by simp) (by simp) st, k _⟩
    simp only [Instr.buildSlice, Sem.run_bind, run_underlying E.sl, sizeOf, typeInfo, program, Sem.run, hi1, Result.andThen, Sem.run_pure]
    have ha : ((Array.range (0 * i.size)).map ((#[] : Array Value)[· % (#[] : Array Value).size]!)) = #[] := by simp
    simp only [Nat.zero_mul, Nat.zero_le, if_false, if_true, Sem.run_bind, Sem.run_pure, Result.andThen, gt_iff_lt, Nat.not_lt_zero]
    simp only [Nat.zero_mul] at ha
    rw [ha]
    rfl

/-- A literal of one element. -/
theorem Ef.slit1 (E : Elt P t e s bytes zs) (h : Ev C.n ρ x v) (hv : v.cells = u.toArray) (hu : u.length = s) (hs' : s ≤ 2 ^ 24) (k : ∀ b, K (.slice (some ⟨b, 0, none⟩) 1 1) (row (some ⟨b, 0, none⟩) 1 e s [u] :: hs)) :
    Ef P C hs ρ ⟨d, .buildSlice t 1 #[(0, x)], ty, pos, af, g⟩ K :=
  Ef.ex (fun c h => by cases h) (Instr.buildSlice t 1 #[(0, v)]) (fun ds => by simp [execOp, h ds]) fun w hi => by
    refine ⟨_, _, _, ?_, (hi.alloc (.cells u.toArray e)).mono fun h st => row_mk (xs := [u]) (cs := u) (lo := 0) (hi := 0) (fun x hx => by simp at hx; rw [hx, hu]) (.inl (Nat.le_refl _)) (by show u.length = 1 * s; omega) (Nat.le_refl _) (by show (1 : Nat) ≤ maxLen; simp only [maxLen]; omega) (by simp [← hu]) st, k _⟩
    refine slit_run E 1 (by omega) (by omega) [(0, v)] u.toArray ?_ w
    obtain ⟨cs0, hcs0⟩ : ∃ cs0 : List Value, (Array.range (1 * s)).map (zs.toArray[· % zs.length]!) = cs0.toArray ∧ cs0.length = s := by
      generalize hA : (Array.range (1 * s)).map (zs.toArray[· % zs.length]!) = A
      refine ⟨A.toList, by simp, ?_⟩
      rw [← hA, Array.length_toList]; simp
    rw [hcs0.1]
    have hc : (decide (u.toArray.size ≠ s) || decide (0 * s + u.toArray.size > cs0.toArray.size)) = false := by
      simp; omega
    simp only [Instr.fill, hv]
    rw [hc]
    have := foldl_splice u cs0 (0 * s) 0 (by omega)
    simp only [Nat.add_zero, Nat.zero_mul] at this
    rw [splice_all (by omega)] at this
    simpa using this

theorem run_app0 (E : Elt P t e s bytes zs) {a a2 : Option Addr} {n cap c : Nat} (hn : n ≤ cap) {w : World} : (Builtin.append_ #[t, t] ty #[.slice a n cap, .slice a2 0 c]).run P w = .ok (.slice a n cap) w := by
  obtain ⟨i, v, hi1, hz, hsz, hby, hzc⟩ := E.info
  cases a <;> cases a2 <;> simp [Builtin.append_, run_underlying E.sl, sizeOf, typeInfo, hi1, Builtin.lenOf, Builtin.firstCells, loadCells, loadCellsFrom, storeCells, hn]

/-- append of a slice that is known. -/
theorem Ef.appS (E : Elt P t e s bytes zs) {a a2 : Option Addr} {cap m n c : Nat} {xs ys : List (List Value)}
    (h1 : Ev C.n ρ x (.slice a n cap)) (h2 : Ev C.n ρ y (.slice a2 m c)) (tk : Take (row a cap e s xs) hs hs1) (hin : SIn hs a2 s ys) (hn : xs.length = n)
    (hm : ys.length = m) (ho : ∀ u ∈ ys.flatten, u.oneCell' = true) (hbig : (n + m) * bytes ≤ 140737488355328) (hbig' : n + m ≤ maxLen)
    (k : ∀ a' cap', K (.slice a' (n + m) cap') (row a' cap' e s (xs ++ ys) :: hs1)) :
    Ef P C hs ρ ⟨d, .call { callee := .builtin .append, args := #[x, y], argTypes := #[t, t] }, ty, pos, af, g⟩ K := fun w hi => by
  subst hn
  obtain ⟨hf, h3⟩ := hin _ _ w hi
  rcases Nat.eq_zero_or_pos m with h0 | h0
  · subst h0
    have hy : ys = [] := List.eq_nil_of_length_eq_zero hm
    subst hy
    have hle : xs.length ≤ cap := by
      rcases row_open tk hi with ⟨_, ⟨rfl, rfl, rfl, _⟩ | ⟨b, cs, lo, hi2, rfl, i', r1, r2, r3, r4, r5⟩⟩
      · exact Nat.le_refl _
      · exact r3
    have hr := run_app0 (ty := ty) (c := c) (a := a) (a2 := a2) (w := w) E hle
    have kk := k a cap
    rw [List.append_nil] at kk
    refine .inl ⟨_, _, w, .inl ?_, Inv.perm tk.perm hi, kk⟩
    rw [Oper.semAt_eq _ _ _ (fun c h => by cases h)]
    show (execOp (act C.n C.ds ρ).eval _).run P w = _
    simp only [execOp, resolve, invoke, builtin]
    simp [h1 C.ds, h2 C.ds, hr, Result.andThen]
  obtain ⟨b, off, cs, e', fr, rfl, hb, ht⟩ := h3 (by omega)
  obtain ⟨a', cap', w', hr, hi'⟩ := run_app (ty := ty) (c := c) E tk hi hf hm (ad := ⟨b, off, none⟩) (fun w hi => by
    obtain ⟨hf, h3⟩ := hin _ _ w hi
    obtain ⟨b, off, cs, e', fr, he, hb, ht⟩ := h3 (by omega)
    cases he
    exact loads_of hb (by rw [hf.length]; exact ht)) ho hbig hbig'
  rw [List.length_append, hm] at hr
  refine .inl ⟨_, _, w', .inl ?_, hi', k a' cap'⟩
  rw [Oper.semAt_eq _ _ _ (fun c h => by cases h)]
  show (execOp (act C.n C.ds ρ).eval _).run P w = _
  simp only [execOp, resolve, invoke, builtin]
  simp [h1 C.ds, h2 C.ds, hr, Result.andThen]

/-- A literal whose building is known. -/
theorem Ef.slitR {parts : List (Nat × Operand)} {vs : List (Nat × Value)} {cs : List Value} {n : Nat} (h : EvP C.n ρ parts vs)
    (hr : ∀ w, (Instr.buildSlice t n vs.toArray).run P w = .ok (.slice (some ⟨w.heap.size, 0, none⟩) n n) (w.alloc (.cells cs.toArray e)))
    (k : ∀ b, K (.slice (some ⟨b, 0, none⟩) n n) (pts b (.cells cs.toArray e) :: hs)) : Ef P C hs ρ ⟨d, .buildSlice t n parts.toArray, ty, pos, af, g⟩ K :=
  Ef.ex (fun c h => by cases h) (Instr.buildSlice t n vs.toArray) (fun ds => by
    have := h.map ds
    simp only [execOp]
    rw [this]) fun w hi => ⟨_, _, _, hr w, hi.alloc _, k _⟩

/-- Of a row whose slice is nil. -/
theorem row_isNil {a : Option Addr} {cap e s : Nat} {xs : List (List Value)} {l : List Assn} {h : Frag} (hn : a.isNone = true) (st : Stars (row a cap e s xs :: l) h) : xs = [] ∧ cap = 0 ∧ a = none := by
  obtain ⟨h1, h2, p, q, c, rfl⟩ := st
  unfold row at p
  obtain ⟨_, ⟨rfl, rfl, rfl⟩ | ⟨b, cs, lo, hi, rfl, _⟩⟩ := p
  · exact ⟨rfl, rfl, rfl⟩
  · cases hn
theorem splice_bv {old new : List UInt8} {n : Nat} (h : n ≤ new.length) : splice (bv old) 0 (bv (new.take n)) = bv (new.take n ++ old.drop n) := by
  simp [splice, bv_append, bv_drop, bv_take, List.length_take, Nat.min_eq_left h]
end

section
variable {P : Program} {C : Cx} {hs hs1 : List Assn} {ρ : Env} {d : Option Tmp} {ty : TypeId} {pos : String} {af : Array Edge} {g : Option (Nat × Bool)} {K : Value → List Assn → Prop}
  {x y z : Operand} {v : Value} {t t' e : TypeId} {l : List UInt8} {k k' : IntKind} {i j : Int}

/-- Parts of strings. -/
theorem Rd.strTo (hu : ∀ w, (underlying t).run P w = .ok .string w) (h : Ev C.n ρ x (str l)) (hy : Ev C.n ρ y (.int k i)) (h0 : 0 ≤ i) (h1 : i ≤ l.length) : Rd P C hs ρ ⟨d, .slice t x none (some y) none, ty, pos, af, g⟩ (str (l.take i.toNat)) :=
  Rd.ex (fun c h => by cases h) (Instr.sliceAt t (str l) none (some (.int k i)) none) (fun ds => by simp only [execOp, h ds, hy ds, Option.map_none, Option.map_some]) fun w _ => by
    simp only [Instr.sliceAt, Instr.slice, str, Sem.run_bind, hu w, Result.andThen, Option.isSome_none, Bool.false_eq_true, if_false, Instr.sliceBounds, Sem.run_pure, Instr.sliceBound, asIntOf, str_size, h0, h1, and_self, if_true, str_extract, List.drop_zero]
theorem Rd.strFrom (hu : ∀ w, (underlying t).run P w = .ok .string w) (h : Ev C.n ρ x (str l)) (hy : Ev C.n ρ y (.int k i)) (h0 : 0 ≤ i) (h1 : i ≤ l.length) : Rd P C hs ρ ⟨d, .slice t x (some y) none none, ty, pos, af, g⟩ (str (l.drop i.toNat)) :=
  Rd.ex (fun c h => by cases h) (Instr.sliceAt t (str l) (some (.int k i)) none none) (fun ds => by simp only [execOp, h ds, hy ds, Option.map_none, Option.map_some]) fun w _ => by
    simp only [Instr.sliceAt, Instr.slice, str, Sem.run_bind, hu w, Result.andThen, Option.isSome_none, Bool.false_eq_true, if_false, Instr.sliceBounds, Sem.run_pure, Instr.sliceBound, asIntOf, str_size, h0, h1, and_self, if_true, str_extract, List.take_length]

/-- A literal of one byte. -/
theorem Ef.byLit1 {zs : List Value} {bytes : Nat} {c : UInt8} (E : Elt P t e 1 bytes zs) (h : Ev C.n ρ x (.int .u8 (c.toNat : Int))) (k : ∀ b, K (.slice (some ⟨b, 0, none⟩) 1 1) (bytesA (some ⟨b, 0, none⟩) 1 [c] :: hs)) :
    Ef P C hs ρ ⟨d, .buildSlice t 1 #[(0, x)], ty, pos, af, g⟩ K :=
  Ef.csq (Ef.slit1 (u := [.int .u8 (c.toNat : Int)]) E h rfl rfl (by decide) fun b => ⟨_, fun _ s => bytes_shut (l := [c]) (e := e) s, k b⟩)
end

theorem ResV.cell1 {P : Program} {C : Cx} {fn : Func} {ρ : Env} {hs : List Assn} {t : TypeId} {b p : Nat} {v : Value} {e : TypeId} {fr : Nat × Nat} (h : fn.results = #[.cell p t]) (ht : ∀ w, (isAgg t).run P w = .ok false w)
    (hp : Ev C.n ρ (.tmp p) (.pointer (some ⟨b, 0, none⟩))) (hb : Blk b (.cells [v].toArray e fr) hs) : ResV P C fn ρ hs v := fun w hi => by
  have h1 := getD_act (ds := C.ds) hp
  simp only [Array.getD_eq_getD_getElem?] at h1
  have hc : w.cell? ⟨b, 0, none⟩ = some v := (cell_of (hb.inv hi)).trans rfl
  have h2 : (loadVar t ⟨b, 0, none⟩).run P w = .ok v w := by
    simp only [loadVar, Sem.run_bind, Sem.run_pure, ht w, Result.andThen]
    simp [load, Sem.run, hc]
  simp [results, h, h1, asAddr, h2]
theorem Rd.eqlPP {P : Program} {C : Cx} {hs : List Assn} {ρ : Env} {d : Option Tmp} {ty : TypeId} {pos : String} {af : Array Edge} {g : Option (Nat × Bool)} {x y : Operand} {t t' e : TypeId} {p : Option Addr} (h1 : Ev C.n ρ x (.pointer p)) (h2 : Ev C.n ρ y (.pointer none)) (hu : ∀ w, (underlying t).run P w = .ok (.pointer e) w) :
    Rd P C hs ρ ⟨d, .binOp .eql t x y t', ty, pos, af, g⟩ (.bool p.isNone) := by
  refine Rd.cmp h1 h2 (fun w => by unfold eqGuard; rfl) fun w _ => ?_
  show (do pure (Value.bool (← Op.equal t (.pointer p) (.pointer none))) : Sem Value).run P w = _
  rw [Sem.run_bind, run_equal_nil hu]; rfl

/-- A contract put in other words. -/
theorem Fn.cv {P : Program} {f : FuncId} {args : List Value} {pre pre' : List Assn} {X : Type} {R : X → Prop} {rt rt' : X → Value} {post post' : X → List Assn} (F : Fn P f args pre R rt post)
    (hpre : ∀ h, Stars pre' h → Stars pre h) (hrt : ∀ x, R x → rt x = rt' x) (hpost : ∀ x h, R x → Stars (post x) h → Stars (post' x) h) : Fn P f args pre' R rt' post' :=
  ⟨F.ent, fun w h s b => (F.calls w h (hpre h s) b).mono fun e w' ⟨x, h', r, he, s', b', f'⟩ => ⟨x, h', r, by rw [he, hrt x r], hpost x h' r s', b', f'⟩⟩

end Go.Proofs.Ytfnoaohbjlnkgaa
