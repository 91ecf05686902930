/-
  Walks, printed by mk.py.
-/
import Derived.Test.YtfnoaohbjlnkgaaR9
import Derived.Test.YtfnoaohbjlnkgaaB5
import Derived.Test.YtfnoaohbjlnkgaaD11
namespace Go.Proofs.Ytfnoaohbjlnkgaa
attribute [local irreducible] J JL At Rd Ef DNew DCar DRun Then RetQ LoopQ


/-- The blocks that are not empty. -/
def usedL (D : Dk) (k : Nat) : List Nat := (List.range k).filter fun i => decide (D.vis i ≠ zb)
def useds (D : Dk) : List Nat := if D.down then [] else usedL D D.n
def useV (l : List Nat) : List (List Value) := l.map fun (i : Nat) => [Value.int .i64 (i : Int)]
@[simp] theorem useV_length (l : List Nat) : (useV l).length = l.length := List.length_map _
theorem usedL_succ (D : Dk) (k : Nat) : usedL D (k + 1) = usedL D k ++ if D.vis k ≠ zb then [k] else [] := by
  unfold usedL
  rw [List.range_succ, List.filter_append]
  congr 1
  by_cases h : D.vis k = zb <;> simp [h]
theorem usedL_hit {D : Dk} {k : Nat} (hk : k < D.n) (h : D.vis k ≠ zb) : (usedL D D.n)[(usedL D k).length]? = some k := by
  obtain ⟨m, hm⟩ : ∃ m, D.n = k + 1 + m := ⟨D.n - (k + 1), by omega⟩
  have hgo : ∀ m, (usedL D (k + 1 + m))[(usedL D k).length]? = some k := by
    intro m
    induction m with
    | zero => rw [Nat.add_zero, usedL_succ, if_pos h, List.getElem?_append_right (Nat.le_refl _), Nat.sub_self]; rfl
    | succ m ih =>
      have hlt := (List.getElem?_eq_some_iff.1 ih).1
      rw [← Nat.add_assoc, usedL_succ, List.getElem?_append_left hlt]
      exact ih
  rw [hm]
  exact hgo m
theorem used_new (n : Nat) : useds (newD n) = [] := by
  unfold useds usedL
  rw [if_neg (by simp [newD])]
  apply List.filter_eq_nil_iff.2
  intro i _
  have : (newD n).vis i = zb := rfl
  simp [this]
theorem J.foldG {P : Program} {C : Cx} {Q : Exit → Act → World → Prop} {ρ : Env} {c : Code} {A F G : Assn} {hs h1 h2 : List Assn} (e : ∀ h, G h ↔ Stars ([A] ++ [F]) h) (t1 : Take A hs h1) (t2 : Take F h1 h2) (k : J P C c Q ρ (G :: h2)) : J P C c Q ρ hs :=
  J.weak (fun h s => Stars.shut (L := [A, F]) (fun h t => (e h).2 t) (Stars.perm (t1.perm.trans (List.Perm.cons _ t2.perm)) s)) k
theorem At.foldG {C : Cx} {Q : Exit → Act → World → Prop} {ex : Exit} {ρ : Env} {A F G : Assn} {hs h1 h2 : List Assn} (e : ∀ h, G h ↔ Stars ([A] ++ [F]) h) (t1 : Take A hs h1) (t2 : Take F h1 h2) (k : At C Q ex ρ (G :: h2)) : At C Q ex ρ hs :=
  At.weak (fun h s => Stars.shut (L := [A, F]) (fun h t => (e h).2 t) (Stars.perm (t1.perm.trans (List.Perm.cons _ t2.perm)) s)) k
theorem J.openG {P : Program} {C : Cx} {Q : Exit → Act → World → Prop} {ρ : Env} {c : Code} {A F G : Assn} {hs h1 : List Assn} (e : ∀ h, G h ↔ Stars ([A] ++ [F]) h) (t1 : Take G hs h1) (k : J P C c Q ρ (A :: F :: h1)) : J P C c Q ρ hs :=
  J.weak (fun h s => by
    obtain ⟨g1, g2, a, b, c, rfl⟩ := Stars.perm t1.perm s
    have s2 : Stars ([A, F] ++ h1) (jn g1 g2) := Stars.append.2 ⟨g1, g2, (e g1).1 a, b, c, rfl⟩
    exact s2) k
theorem J.shutDk {P : Program} {C : Cx} {Q : Exit → Act → World → Prop} {ρ : Env} {c : Code} {d m : Nat} {D : Dk} {mp : List (Int × Value)} {a : Option Addr} {cap : Nat} {hs h1 h2 h3 : List Assn} (hw : D.wf) (hd : DurOk D.n D.dur mp)
    (t1 : Take (pts d (.cells [.int .i64 D.n, .map (some m), .slice a D.pend.length cap, .int .i64 D.ops, .int .i64 D.lim, .bool D.down].toArray 81)) hs h1) (t2 : Take (imap m mp) h1 h2) (t3 : Take (row a cap 86 513 (D.pend.map pcell)) h2 h3)
    (k : J P C c Q ρ (dk d D :: h3)) : J P C c Q ρ hs :=
  J.weak (fun h s => dk_shut hw hd (Stars.perm (t1.perm.trans (List.Perm.cons _ (t2.perm.trans (List.Perm.cons _ t3.perm)))) s)) k
theorem At.shutDk {C : Cx} {Q : Exit → Act → World → Prop} {ex : Exit} {ρ : Env} {d m : Nat} {D : Dk} {mp : List (Int × Value)} {a : Option Addr} {cap : Nat} {hs h1 h2 h3 : List Assn} (hw : D.wf) (hd : DurOk D.n D.dur mp)
    (t1 : Take (pts d (.cells [.int .i64 D.n, .map (some m), .slice a D.pend.length cap, .int .i64 D.ops, .int .i64 D.lim, .bool D.down].toArray 81)) hs h1) (t2 : Take (imap m mp) h1 h2) (t3 : Take (row a cap 86 513 (D.pend.map pcell)) h2 h3)
    (k : At C Q ex ρ (dk d D :: h3)) : At C Q ex ρ hs :=
  At.weak (fun h s => dk_shut hw hd (Stars.perm (t1.perm.trans (List.Perm.cons _ (t2.perm.trans (List.Perm.cons _ t3.perm)))) s)) k

set_option maxRecDepth 100000 in
set_option maxHeartbeats 400000 in
theorem used1_any (l : Nat) (G Gx : Nat → Assn) (F : Assn) (b d : Nat) (D : Dk) (hF : ∀ h, G 0 h ↔ Stars ([dk d D] ++ [F]) h) (hy : ∀ k x, (useV (useds D))[k]? = some x → Yields Try.prog l x [G k] [G (k + 1)] [Gx k]) :
    Fn Try.prog 43 [.func (.yield l) #[] #[], .pointer (some ⟨b, 0, none⟩)] [pts b (.cells [.pointer (some ⟨d, 0, none⟩)].toArray 23), G 0] (X := Option Nat) (fun z => ∀ k, z = some k → k < (useds D).length) (fun _ => .tuple #[]) (fun z => [pts b (.cells [.pointer (some ⟨d, 0, none⟩)].toArray 23)] ++ [match z with | none => G (useds D).length | some k => Gx k]) := by
  refine Fn.mk' (n := 34) (l := [(0, .func (.yield l) #[] #[]), (1, .pointer (some ⟨b, 0, none⟩))]) (fn := Try.f43) Try.func43 (by kernel_rfl) rfl rfl (by simp) rfl ?_
  intro h0 w0
  refine J.openG hF (by repeat (first | exact .here | apply Take.there)) ?_
  refine J.openT .here dk_open ?_
  rintro ⟨m, mp, a, cap⟩ ⟨hwf, hdur⟩
  simp only [dparts, List.cons_append, List.nil_append]
  have hn2 := hwf.n2
  refine J.seq ?_
  refine J.seq ?_
  refine J.region ?_
  refine JL.rd (Rd.ldN Try.isAgg23 (t1 rfl rfl) (by repeat (first | exact .own | exact .rd | apply Blk.there)) (by repeat (first | exact .zero | apply Nth.succ))) ?_
  refine JL.rd (Rd.eqlNil (t0 rfl) Try.runUnderlying23) ?_
  refine JL.rd (Rd.move (t0 rfl)) ?_
  refine JL.rdG rfl (EvB (t0 rfl) rfl) rfl (Rd.ldN Try.isAgg23 (t4 rfl rfl) (by repeat (first | exact .own | exact .rd | apply Blk.there)) (by repeat (first | exact .zero | apply Nth.succ))) ?_
  refine JL.rdG rfl (EvB (t1 rfl rfl) rfl) rfl (Rd.nil (t0 rfl)) ?_
  refine JL.rdG rfl (EvB (t2 rfl rfl) rfl) rfl ((by first | exact Rd.fld0 fld_81_5 (t0 rfl) | exact Rd.fld fld_81_5 (t0 rfl))) ?_
  refine JL.rdG rfl (EvB (t3 rfl rfl) rfl) rfl (Rd.ldN Try.isAgg4 (t0 rfl) (by repeat (first | exact .own | exact .rd | apply Blk.there)) (by repeat (first | exact .zero | apply Nth.succ))) ?_
  refine JL.rd (Rd.pickF (EvB (t4 rfl rfl) rfl) (t0 rfl)) ?_
  refine JL.nil ?_
  refine At.next ?_
  refine J.cond (t0 rfl) ?_ ?_
  · intro hc1
    have hdn : D.down = true := by simpa using hc1
    have hu : useds D = [] := by simp [useds, hdn]
    refine J.ret ?_
    refine At.nextR ?_
    refine At.shutDk (d := d) hwf hdur (by repeat (first | exact .here | apply Take.there)) (by repeat (first | exact .here | apply Take.there)) (by repeat (first | exact .here | apply Take.there)) ?_
    refine At.foldG hF (by repeat (first | exact .here | apply Take.there)) (by repeat (first | exact .here | apply Take.there)) ?_
    exact At.ret (none) (by intro k hk; cases hk) (ResV.nores rfl) rfl (fun _ s => by rw [hu]; exact Stars.sel (by repeat (first | exact Sel.nil | apply Sel.cons (by repeat (first | exact .here | apply Take.there)))) s)
  · intro hc1
    have hdn : D.down = false := by simpa using hc1
    have hu : useds D = usedL D D.n := by simp [useds, hdn]
    refine J.shutDk (d := d) hwf hdur (by repeat (first | exact .here | apply Take.there)) (by repeat (first | exact .here | apply Take.there)) (by repeat (first | exact .here | apply Take.there)) ?_
    refine J.skip ?_
    refine At.next ?_
    refine J.seq ?_
    refine J.region ?_
    refine JL.rd (Rd.ldN Try.isAgg23 (t9 rfl rfl) (by repeat (first | exact .own | exact .rd | apply Blk.there)) (by repeat (first | exact .zero | apply Nth.succ))) ?_
    refine JL.ef (Ef.call (.cons (t0 rfl) .nil) (clone_any d D) (by repeat (first | exact Sel.nil | apply Sel.cons (by repeat (first | exact .here | apply Take.there)))) ?_)
    rintro c -
    simp only [List.cons_append, List.nil_append]
    refine JL.rd (Rd.assign (t0 rfl)) ?_
    refine JL.nil ?_
    refine At.next ?_
    refine J.seq ?_
    refine J.foldG hF (by repeat (first | exact .here | apply Take.there)) (by repeat (first | exact .here | apply Take.there)) ?_
    refine J.openT (by repeat (first | exact .here | apply Take.there)) dk_open ?_
    rintro ⟨m2, mp2, a2, cap2⟩ ⟨hwf2, hdur2⟩
    simp only [dparts, List.cons_append, List.nil_append]
    refine J.region ?_
    refine JL.rd (Rd.move (t0 rfl)) ?_
    refine JL.rd (Rd.nil (t0 rfl)) ?_
    refine JL.rd ((by first | exact Rd.fld0 fld_81_0 (t0 rfl) | exact Rd.fldz fld_81_0 (t0 rfl))) ?_
    refine JL.rd (Rd.ldN Try.isAgg3 (t0 rfl) (by repeat (first | exact .own | exact .rd | apply Blk.there)) (by repeat (first | exact .zero | apply Nth.succ))) ?_
    refine JL.rd (Rd.move Ev.c) ?_
    refine JL.nil ?_
    refine At.next ?_
    refine J.block ?_
    refine J.loop (X := Nat) (fun (x : Nat) => [(19, .int .i64 (x : Int))]) (K := [(18, _), (3, _), (0, _)]) (fun x => [dk c D, pts b (.cells [.pointer (some ⟨d, 0, none⟩)].toArray 23), G (usedL D x).length]) (fun x => x ≤ D.n) (fun x => D.n - x) (0) ?_ ⟨lk0.trans (by first | with_reducible rfl | (congr 1; omega) | (simp; done) | (simp [*]; done)), trivial⟩ ⟨(lk1 rfl), (lk5 rfl), (lk16 rfl), trivial⟩ (fun _ s => dk_shut hwf2 hdur2 (Stars.sel (by repeat (first | exact Sel.nil | apply Sel.cons (by repeat (first | exact .here | apply Take.there)))) s)) ?_
    · exact Nat.zero_le _
    intro x ρ hp
    simp only [List.cons_append, List.nil_append]
    refine J.seq ?_
    refine J.region ?_
    refine JL.rd (Rd.lss (t0 rfl) (t1 rfl rfl)) ?_
    refine JL.nil ?_
    refine At.next ?_
    refine J.seq ?_
    refine J.condD (t0 rfl) ?_ ?_
    · intro hc2
      have hxn : x < D.n := by omega
      have hvl := hwf.vis x
      have hus := usedL_succ D x
      refine J.skip ?_
      refine At.next ?_
      refine J.seq ?_
      refine J.block ?_
      refine J.seq ?_
      refine J.region ?_
      refine JL.rd (Rd.move (t1 rfl rfl)) ?_
      refine JL.rd (Rd.assign (t0 rfl)) ?_
      refine JL.nil ?_
      refine At.next ?_
      refine J.seq ?_
      refine J.region ?_
      refine JL.rd (Rd.move (t5 rfl rfl)) ?_
      refine JL.rd (Rd.move (t1 rfl rfl)) ?_
      refine JL.ef (Ef.call (.cons (t1 rfl rfl) (.cons (t0 rfl) .nil)) (visible_any c D x hxn) (by repeat (first | exact Sel.nil | apply Sel.cons (by repeat (first | exact .here | apply Take.there)))) ?_)
      rintro - -
      simp only [List.cons_append, List.nil_append]
      refine JL.rd (Rd.build (vs := []) (fun _ => by simp) build0) ?_
      refine JL.rd (Rd.neqA (t1 rfl rfl) (t0 rfl) eqg0 Try.runUnderlying84 Try.runUnderlying5 Try.isAgg5 Try.sizeOf5 (by simp [hvl]) (by simp)) ?_
      refine JL.rd (Rd.move (t0 rfl)) ?_
      refine JL.caseD (t0 rfl) ?_ ?_
      · intro hb3p hb3
        refine JL.rdG rfl (EvB (t0 rfl) hb3) rfl (Rd.move (t12 rfl rfl)) ?_
        refine JL.rdG rfl (EvB (t1 rfl rfl) hb3) rfl (Rd.move (t7 rfl rfl)) ?_
        refine JL.efG rfl (EvB (t2 rfl rfl) hb3) rfl (Ef.yield (t1 rfl rfl) (.cons (t0 rfl) .nil) (hy _ [Value.int .i64 (x : Int)] (by rw [hu]; unfold useV; rw [List.getElem?_map, usedL_hit hxn (by assumption)]; rfl)) (by repeat (first | exact Sel.nil | apply Sel.cons (by repeat (first | exact .here | apply Take.there)))) ?_ ?_)
        · simp only [List.cons_append, List.nil_append]
          refine JL.rdG rfl (EvB (t3 rfl rfl) hb3) rfl (Rd.not (EvB (t0 rfl) rfl)) ?_
          refine JL.rd (Rd.pickT (EvB (t4 rfl rfl) hb3) (t0 rfl)) ?_
          refine JL.nil ?_
          refine At.next ?_
          refine J.condF (EvB (t0 rfl) rfl) ?_
          refine J.skip ?_
          refine At.blkN ?_
          refine At.next ?_
          refine J.region ?_
          refine JL.rd (Rd.add (t14 rfl rfl) Ev.c (w64 (by omega) (by omega))) ?_
          refine JL.rd (Rd.move (t0 rfl)) ?_
          refine JL.nil ?_
          first | rw [if_pos (by assumption)] at hus | rw [if_neg (by assumption), List.append_nil] at hus
          try rw [show (usedL D x).length + 1 = (usedL D (x + 1)).length by rw [hus]; simp]
          try rw [← hus]
          refine At.again (x + 1) ?_ ?_ ⟨lk0.trans (by first | with_reducible rfl | (congr 1; omega) | (simp; done) | (simp [*]; done)), trivial⟩ ⟨(lk17 rfl), (lk18 rfl), (lk19 rfl), trivial⟩ (fun _ => Stars.sel (by repeat (first | exact Sel.nil | apply Sel.cons (by repeat (first | exact .here | apply Take.there)))))
          · omega
          · omega
        · simp only [List.cons_append, List.nil_append]
          refine JL.rdG rfl (EvB (t3 rfl rfl) hb3) rfl (Rd.not (EvB (t0 rfl) rfl)) ?_
          refine JL.rd (Rd.pickT (EvB (t4 rfl rfl) hb3) (t0 rfl)) ?_
          refine JL.nil ?_
          refine At.next ?_
          refine J.condT (EvB (t0 rfl) rfl) ?_
          refine J.ret ?_
          refine At.blkR ?_
          refine At.nextR ?_
          refine At.loopR ?_
          refine At.blkR ?_
          exact At.ret (some (usedL D x).length) (by intro k hk; cases hk; rw [hu]; exact (List.getElem?_eq_some_iff.1 (usedL_hit hxn (by assumption))).1) (ResV.nores rfl) rfl (fun _ s => Stars.sel (by repeat (first | exact Sel.nil | apply Sel.cons (by repeat (first | exact .here | apply Take.there)))) s)
      · intro hb3p hb3
        refine JL.skG rfl (EvB (t0 rfl) hb3) rfl ?_
        refine JL.skG rfl (EvB (t1 rfl rfl) hb3) rfl ?_
        refine JL.skG rfl (EvB (t2 rfl rfl) hb3) rfl ?_
        refine JL.skG rfl (EvB (t3 rfl rfl) hb3) rfl ?_
        refine JL.rd (Rd.pickF (EvB (t4 rfl rfl) hb3) Ev.c) ?_
        refine JL.nil ?_
        refine At.next ?_
        refine J.condF (t0 rfl) ?_
        refine J.skip ?_
        refine At.blkN ?_
        refine At.next ?_
        refine J.region ?_
        refine JL.rd (Rd.add (t14 rfl rfl) Ev.c (w64 (by omega) (by omega))) ?_
        refine JL.rd (Rd.move (t0 rfl)) ?_
        refine JL.nil ?_
        first | rw [if_pos (by assumption)] at hus | rw [if_neg (by assumption), List.append_nil] at hus
        try rw [show (usedL D x).length + 1 = (usedL D (x + 1)).length by rw [hus]; simp]
        try rw [← hus]
        refine At.again (x + 1) ?_ ?_ ⟨lk0.trans (by first | with_reducible rfl | (congr 1; omega) | (simp; done) | (simp [*]; done)), trivial⟩ ⟨(lk17 rfl), (lk18 rfl), (lk19 rfl), trivial⟩ (fun _ => Stars.sel (by repeat (first | exact Sel.nil | apply Sel.cons (by repeat (first | exact .here | apply Take.there)))))
        · omega
        · omega
    · intro hc2
      obtain rfl : x = D.n := by omega
      refine J.exit ?_
      refine At.nextX ?_
      refine At.loopX ?_
      refine At.blkX ?_
      exact At.retN (none) (by intro k hk; cases hk) (ResV.nores rfl) rfl (fun _ s => by rw [hu]; exact Stars.sel (by repeat (first | exact Sel.nil | apply Sel.cons (by repeat (first | exact .here | apply Take.there)))) s)

theorem used_iter (b d : Nat) (D : Dk) : IterP Try.prog 43 [.pointer (some ⟨b, 0, none⟩)] [pts b (.cells [.pointer (some ⟨d, 0, none⟩)].toArray 23)] [dk d D] (useV (useds D)) [pts b (.cells [.pointer (some ⟨d, 0, none⟩)].toArray 23)] :=
  IterP.of (useV_length _) fun l J Jx F hF hy => used1_any l J Jx (Stars F) b d D (fun h => (hF h).trans Stars.wrap.symm) hy
theorem use_one {l : List Nat} {n : Nat} (hn : n = 1) : ∀ x ∈ useV l, x.length = n := by
  intro x hx
  obtain ⟨i, _, rfl⟩ := List.mem_map.1 hx
  exact hn.symm
end Go.Proofs.Ytfnoaohbjlnkgaa
