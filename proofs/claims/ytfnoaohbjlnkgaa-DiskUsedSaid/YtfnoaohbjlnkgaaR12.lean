/-
  Walks, printed by mk.py.
-/
import Derived.Test.YtfnoaohbjlnkgaaR10
namespace Go.Proofs.Ytfnoaohbjlnkgaa
attribute [local irreducible] J JL At Rd Ef DNew DCar DRun Then RetQ LoopQ


theorem useV_snoc (l : List Nat) (i : Nat) : useV l ++ [[Value.int .i64 (i : Int)]] = useV (l ++ [i]) := by simp [useV]
@[simp] theorem usedL_zero (D : Dk) : usedL D 0 = [] := rfl
theorem useds_fin {D : Dk} {x : Nat} (hd : D.down = true → x = 0) (h1 : 1 ≤ D.n) (h : D.down = true ∨ x = D.n) : usedL D x = useds D := by
  unfold useds
  by_cases hdn : D.down = true
  · rw [if_pos hdn, hd hdn]; rfl
  · rw [if_neg hdn]
    rcases h with h | h
    · exact absurd h hdn
    · rw [h]
/-- The device after zeros were written to the first k of the blocks of a list. -/
def wz (E : Dk) (U : List Nat) : Nat → Dk
  | 0 => E
  | k + 1 => match U[k]? with
    | none => wz E U k
    | some i => writeD (wz E U k) (i : Int) zb
theorem wz_succ {E : Dk} {U : List Nat} {k i : Nat} (h : U[k]? = some i) : wz E U (k + 1) = writeD (wz E U k) (i : Int) zb := by rw [wz, h]
theorem wz_ops (E : Dk) (U : List Nat) (k : Nat) : (wz E U k).ops ≤ E.ops + k ∧ (wz E U k).pend.length ≤ E.pend.length + k := by
  induction k with
  | zero => exact ⟨Nat.le_refl _, Nat.le_refl _⟩
  | succ k ih =>
    rcases h : U[k]? with _ | i
    · rw [show wz E U (k + 1) = wz E U k by rw [wz, h]]; omega
    · rw [wz_succ h]
      have := writeD_ops (wz E U k) i zb
      omega

set_option maxRecDepth 100000 in
set_option maxHeartbeats 400000 in
theorem rused_any (r1 r2 : Option Addr) (k1 k2 : Nat) (D : Dk) (hwf : D.wf) :
    Fn Try.prog 32 [refV r1 k1 r2 k2 D] [rowR r1 1 (durs D.n D.dur), rowR r2 2 (D.pend.map wcell)] (X := Option Addr × Nat) (fun _ => True) (fun x => .slice x.1 (useds D).length x.2) (fun x => [row x.1 x.2 3 1 (useV (useds D)), rowR r1 1 (durs D.n D.dur), rowR r2 2 (D.pend.map wcell)]) := by
  refine Fn.mk' (n := 27) (l := [(0, refV r1 k1 r2 k2 D)]) (fn := Try.f32) Try.func32 (by kernel_rfl) rfl rfl (by simp) rfl ?_
  intro h0 w0
  have hlen := hwf.plen
  have hn2 := hwf.n2
  have hn1 := hwf.n1
  refine J.seq ?_
  refine J.region ?_
  refine JL.ef (Ef.box (t0 rfl) rfl ?_)
  intro b1
  refine JL.rd (Rd.assign Ev.c) ?_
  refine JL.nil ?_
  refine At.next ?_
  refine J.seq ?_
  refine J.region ?_
  refine JL.rd (Rd.assign Ev.c) ?_
  refine JL.nil ?_
  refine At.next ?_
  refine J.seq ?_
  refine J.seq ?_
  refine J.region ?_
  refine JL.rd (Rd.assign Ev.c) ?_
  refine JL.nil ?_
  refine At.next ?_
  refine J.block ?_
  refine J.loop (X := Nat × Option Addr × Nat) (fun (x : Nat × Option Addr × Nat) => [(4, .int .i64 (x.1 : Int)), (3, .slice x.2.1 (usedL D x.1).length x.2.2)]) (K := [(2, _), (1, _)]) (fun x => [pts b1 (.cells [Value.slice r1 D.n k1, .slice r2 D.pend.length k2, .int .i64 D.lim, .bool D.down, .int .i64 D.ops].toArray 51), row x.2.1 x.2.2 3 1 (useV (usedL D x.1)), rowR r1 1 (durs D.n D.dur), rowR r2 2 (D.pend.map wcell)]) (fun x => x.1 ≤ D.n ∧ (D.down = true → x.1 = 0)) (fun x => D.n - x.1) ((0, none, 0)) ?_ ⟨lk0.trans (by first | (simp [hus]; done) | with_reducible rfl | (congr 1; omega) | (simp; done) | (simp [*]; done)), (lk1 rfl).trans (by first | (simp [hus]; done) | with_reducible rfl | (congr 1; omega) | (simp; done) | (simp [*]; done)), trivial⟩ ⟨(lk2 rfl), (lk3 rfl), trivial⟩ (fun _ s => Stars.sel (by repeat (first | exact Sel.nil | apply Sel.cons (by repeat (first | exact .here | apply Take.there)))) (row_nil 3 1 s)) ?_
  · exact ⟨Nat.zero_le _, fun _ => rfl⟩
  rintro ⟨x, ra, rc⟩ ρ ⟨hk, hd0⟩
  simp only [List.cons_append, List.nil_append]
  dsimp only at hk hd0 ⊢
  have hul : (usedL D x).length ≤ x := by unfold usedL; exact Nat.le_trans (List.length_filter_le _ _) (by simp)
  refine J.seq ?_
  refine J.seq ?_
  refine J.region ?_
  refine JL.rd (Rd.move (t0 rfl)) ?_
  refine JL.rd ((by first | exact Rd.fld0 fld_51_0 (t4 rfl rfl) | exact Rd.fldz fld_51_0 (t4 rfl rfl))) ?_
  refine JL.rd (Rd.ldN Try.isAgg48 (t0 rfl) (by repeat (first | exact .own | exact .rd | apply Blk.there)) (by repeat (first | exact .zero | apply Nth.succ))) ?_
  refine JL.rd (Rd.len Try.runUnderlying48 (t0 rfl)) ?_
  refine JL.rd (Rd.lss (t3 rfl rfl) (t0 rfl)) ?_
  refine JL.rd (Rd.move (t0 rfl)) ?_
  refine JL.caseD (t0 rfl) ?_ ?_
  · intro hb2p hb2
    refine JL.rdG rfl (EvB (t0 rfl) hb2) rfl ((by first | exact Rd.fld0 fld_51_3 (t9 rfl rfl) | exact Rd.fld fld_51_3 (t9 rfl rfl))) ?_
    refine JL.rdG rfl (EvB (t1 rfl rfl) hb2) rfl (Rd.ldN Try.isAgg4 (t0 rfl) (by repeat (first | exact .own | exact .rd | apply Blk.there)) (by repeat (first | exact .zero | apply Nth.succ))) ?_
    refine JL.rdG rfl (EvB (t2 rfl rfl) hb2) rfl (Rd.not (t0 rfl)) ?_
    refine JL.rd (Rd.pickT (EvB (t3 rfl rfl) hb2) (t0 rfl)) ?_
    refine JL.nil ?_
    refine At.next ?_
    refine J.cond (t0 rfl) ?_ ?_
    · intro hc3
      have hdf : D.down = false := by simpa using hc3
      refine J.skip ?_
      refine At.next ?_
      refine J.seq ?_
      refine J.block ?_
      refine J.seq ?_
      refine J.region ?_
      refine JL.rd (Rd.ldB Try.isAgg51 Try.sizeOf51 (t13 rfl rfl) (by repeat (first | exact .own | exact .rd | apply Blk.there)) (by first | rfl | assumption | simp_all)) ?_
      refine JL.rd (Rd.move (t11 rfl rfl)) ?_
      refine JL.ef (Ef.call (.cons (t1 rfl rfl) (.cons (t0 rfl) .nil)) (rvis_any r1 r2 k1 k2 D hwf x (by omega)) (by repeat (first | exact Sel.nil | apply Sel.cons (by repeat (first | exact .here | apply Take.there)))) ?_)
      rintro - -
      simp only [List.cons_append, List.nil_append]
      refine JL.ef (Ef.call .nil (zero_any) (by repeat (first | exact Sel.nil | apply Sel.cons (by repeat (first | exact .here | apply Take.there)))) ?_)
      rintro - -
      simp only [List.cons_append, List.nil_append]
      refine JL.rd (Rd.str_neq (t1 rfl rfl) (t0 rfl)) ?_
      refine JL.nil ?_
      refine At.next ?_
      refine J.condD (t0 rfl) ?_ ?_
      · intro hc4
        refine J.region ?_
        refine JL.rd (Rd.move (t16 rfl rfl)) ?_
        refine JL.rd (Rd.move (t16 rfl rfl)) ?_
        refine JL.ef (Ef.slit1 elt_34 (t0 rfl) rfl rfl (by decide) ?_)
        intro b5
        refine JL.ef (Ef.appS elt_34 (t2 rfl rfl) (t0 rfl) (by repeat (first | exact .here | apply Take.there)) (by first | (apply SIn.row; (repeat (first | exact .here | apply Take.there)); done) | (apply SIn.rowR; (repeat (first | exact .here | apply Take.there)); done) | (apply SIn.bytes; (repeat (first | exact .here | apply Take.there)); done) | (apply hA; (repeat (first | exact .here | apply Take.there)); done)) (by first | (simp; done) | (simp; omega) | omega | (simp [*]; done)) (by first | (simp; done) | (simp; omega) | omega | (simp [*]; done)) (by simp [Value.oneCell', str]) (by first | omega | (simp; omega)) (by first | (simp only [maxLen]; omega) | (simp [maxLen]; omega)) ?_)
        intro a6 c7
        refine JL.rd (Rd.assign (t0 rfl)) ?_
        refine JL.nil ?_
        refine At.blkN ?_
        refine At.next ?_
        refine J.region ?_
        refine JL.rd (Rd.move (t20 rfl rfl)) ?_
        refine JL.rd (Rd.add (t0 rfl) Ev.c (w64 (by omega) (by omega))) ?_
        refine JL.rd (Rd.assign (t0 rfl)) ?_
        refine JL.nil ?_
        have hus := usedL_succ D x
        first | rw [if_pos (by assumption)] at hus | rw [if_neg (by assumption), List.append_nil] at hus
        first | rw [useV_snoc, ← hus] | rw [← hus]
        refine At.again ((x + 1, a6, c7)) ?_ ?_ ⟨lk0.trans (by first | (simp [hus]; done) | with_reducible rfl | (congr 1; omega) | (simp; done) | (simp [*]; done)), (lk3 rfl).trans (by first | (simp [hus]; done) | with_reducible rfl | (congr 1; omega) | (simp; done) | (simp [*]; done)), trivial⟩ ⟨(lk25 rfl), (lk26 rfl), trivial⟩ (fun _ => Stars.sel (by repeat (first | exact Sel.nil | apply Sel.cons (by repeat (first | exact .here | apply Take.there)))))
        · exact ⟨by show x + 1 ≤ D.n; omega, fun h => absurd h (by simp [hdf])⟩
        · show D.n - (x + 1) < D.n - x; omega
      · intro hc4
        refine J.skip ?_
        refine At.blkN ?_
        refine At.next ?_
        refine J.region ?_
        refine JL.rd (Rd.move (t15 rfl rfl)) ?_
        refine JL.rd (Rd.add (t0 rfl) Ev.c (w64 (by omega) (by omega))) ?_
        refine JL.rd (Rd.assign (t0 rfl)) ?_
        refine JL.nil ?_
        have hus := usedL_succ D x
        first | rw [if_pos (by assumption)] at hus | rw [if_neg (by assumption), List.append_nil] at hus
        first | rw [useV_snoc, ← hus] | rw [← hus]
        refine At.again ((x + 1, ra, rc)) ?_ ?_ ⟨lk0.trans (by first | (simp [hus]; done) | with_reducible rfl | (congr 1; omega) | (simp; done) | (simp [*]; done)), (lk19 rfl).trans (by first | (simp [hus]; done) | with_reducible rfl | (congr 1; omega) | (simp; done) | (simp [*]; done)), trivial⟩ ⟨(lk20 rfl), (lk21 rfl), trivial⟩ (fun _ => Stars.sel (by repeat (first | exact Sel.nil | apply Sel.cons (by repeat (first | exact .here | apply Take.there)))))
        · exact ⟨by show x + 1 ≤ D.n; omega, fun h => absurd h (by simp [hdf])⟩
        · show D.n - (x + 1) < D.n - x; omega
    · intro hc3
      refine J.exit ?_
      refine At.nextX ?_
      refine At.loopX ?_
      refine At.blkX ?_
      refine At.next ?_
      refine J.seq ?_
      have hu : usedL D x = useds D := useds_fin hd0 hn1 (by first | exact .inr (by omega) | exact .inl (by have h : (!D.down) = false := (by assumption); simpa using h))
      rw [hu]
      refine J.region ?_
      refine JL.rd (Rd.move (t11 rfl rfl)) ?_
      refine JL.rd (Rd.assign (t0 rfl)) ?_
      refine JL.nil ?_
      refine At.next ?_
      refine J.ret ?_
      exact At.ret ((ra, rc)) (trivial) (ResV.one rfl (t0 rfl)) rfl (fun _ => Stars.sel (by repeat (first | exact Sel.nil | apply Sel.cons (by repeat (first | exact .here | apply Take.there)))))
  · intro hb2p hb2
    refine JL.skG rfl (EvB (t0 rfl) hb2) rfl ?_
    refine JL.skG rfl (EvB (t1 rfl rfl) hb2) rfl ?_
    refine JL.skG rfl (EvB (t2 rfl rfl) hb2) rfl ?_
    refine JL.rd (Rd.pickF (EvB (t3 rfl rfl) hb2) Ev.c) ?_
    refine JL.nil ?_
    refine At.next ?_
    refine J.condF (t0 rfl) ?_
    refine J.exit ?_
    refine At.nextX ?_
    refine At.loopX ?_
    refine At.blkX ?_
    refine At.next ?_
    refine J.seq ?_
    have hu : usedL D x = useds D := useds_fin hd0 hn1 (by first | exact .inr (by omega) | exact .inl (by have h : (!D.down) = false := (by assumption); simpa using h))
    rw [hu]
    refine J.region ?_
    refine JL.rd (Rd.move (t11 rfl rfl)) ?_
    refine JL.rd (Rd.assign (t0 rfl)) ?_
    refine JL.nil ?_
    refine At.next ?_
    refine J.ret ?_
    exact At.ret ((ra, rc)) (trivial) (ResV.one rfl (t0 rfl)) rfl (fun _ => Stars.sel (by repeat (first | exact Sel.nil | apply Sel.cons (by repeat (first | exact .here | apply Take.there)))))
end Go.Proofs.Ytfnoaohbjlnkgaa
