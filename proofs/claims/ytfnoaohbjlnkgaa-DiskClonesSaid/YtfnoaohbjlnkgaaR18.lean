/-
  Walks, printed by mk.py.
-/
import Derived.Test.YtfnoaohbjlnkgaaR17
namespace Go.Proofs.Ytfnoaohbjlnkgaa
attribute [local irreducible] J JL At Rd Ef DNew DCar DRun Then RetQ LoopQ


/-- Two devices are in the same state. -/
def sameP (D E : Dk) : Prop := D.n = E.n ∧ (∀ i, i < D.n → D.dur i = E.dur i) ∧ D.pend = E.pend ∧ D.lim = E.lim ∧ D.down = E.down
noncomputable def sameB (D E : Dk) : Bool := @decide (sameP D E) (Classical.propDecidable _)
theorem sameB_true {D E : Dk} (h : sameP D E) : sameB D E = true := @decide_eq_true _ (Classical.propDecidable _) h
theorem sameB_false {D E : Dk} (h : ¬ sameP D E) : sameB D E = false := @decide_eq_false _ (Classical.propDecidable _) h
theorem dur_blks {n : Nat} {dur : Nat → List UInt8} {mp : List (Int × Value)} (h : DurOk n dur mp) (hl : ∀ i, (dur i).length = 512) : Blks mp := by
  intro p hp
  have h1 := mget_mem h.1 hp
  rw [h.2] at h1
  split at h1
  · exact ⟨_, (Option.some.inj h1).symm, hl _⟩
  · cases h1
theorem dur_eq {n : Nat} {f g : Nat → List UInt8} {mp mq : List (Int × Value)} (hf : DurOk n f mp) (hg : DurOk n g mq) : eqMap mp mq ↔ ∀ i, i < n → f i = g i := by
  constructor
  · intro h i hi
    have h1 := h (i : Int)
    rw [hf.2, hg.2, Int.toNat_natCast] at h1
    by_cases a : f i = zb
    · by_cases b : g i = zb
      · rw [a, b]
      · rw [if_neg (by simp [a]), if_pos ⟨by omega, hi, b⟩] at h1; cases h1
    · by_cases b : g i = zb
      · rw [if_pos ⟨by omega, hi, a⟩, if_neg (by simp [b])] at h1; cases h1
      · rw [if_pos ⟨by omega, hi, a⟩, if_pos ⟨by omega, hi, b⟩] at h1
        exact bv_agg_inj (Option.some.inj h1)
  · intro h k
    rw [hf.2, hg.2]
    by_cases hk : 0 ≤ k ∧ k.toNat < n
    · rw [h _ hk.2]
    · rw [if_neg (fun x => hk ⟨x.1, x.2.1⟩), if_neg (fun x => hk ⟨x.1, x.2.1⟩)]
theorem same_eq {D E : Dk} {mp mq : List (Int × Value)} (hd : DurOk D.n D.dur mp) (he : DurOk E.n E.dur mq) :
    sameB D E = (decide ((D.n : Int) = (E.n : Int)) && (eqMapB mp mq && (decide (D.pend = E.pend) && (decide (D.lim = E.lim) && (D.down == E.down))))) := by
  by_cases hn : D.n = E.n
  · have he' := he
    rw [← hn] at he'
    have hm := dur_eq hd he'
    have e1 : decide ((D.n : Int) = (E.n : Int)) = true := by simp [hn]
    rw [e1, Bool.true_and]
    by_cases h1 : eqMap mp mq
    · rw [eqMapB_true h1, Bool.true_and]
      by_cases h2 : D.pend = E.pend ∧ D.lim = E.lim ∧ D.down = E.down
      · rw [sameB_true ⟨hn, hm.1 h1, h2.1, h2.2.1, h2.2.2⟩]
        simp [h2.1, h2.2.1, h2.2.2]
      · rw [sameB_false (fun h => h2 h.2.2)]
        symm
        simp only [Bool.and_eq_false_iff, decide_eq_false_iff_not, beq_eq_false_iff_ne]
        by_cases a : D.pend = E.pend
        · by_cases b : D.lim = E.lim
          · exact .inr (.inr fun c => h2 ⟨a, b, c⟩)
          · exact .inr (.inl b)
        · exact .inl a
    · rw [eqMapB_false h1, sameB_false (fun h => h1 (hm.2 h.2.1))]; rfl
  · rw [sameB_false (fun h => hn h.1)]
    have e1 : decide ((D.n : Int) = (E.n : Int)) = false := by simp; omega
    rw [e1]; rfl

set_option maxRecDepth 100000 in
set_option maxHeartbeats 400000 in
theorem equal_any (d c : Nat) (D E : Dk) :
    Fn Try.prog 34 [.pointer (some ⟨d, 0, none⟩), .pointer (some ⟨c, 0, none⟩)] [dk d D, dk c E] (X := Unit) (fun _ => True) (fun _ => .bool (sameB D E)) (fun _ => [dk d D, dk c E]) := by
  refine Fn.mk' (n := 67) (l := [(0, .pointer (some ⟨d, 0, none⟩)), (1, .pointer (some ⟨c, 0, none⟩))]) (fn := Try.f34) Try.func34 (by kernel_rfl) rfl rfl (by simp) rfl ?_
  intro h0 w0
  refine J.openT .here dk_open ?_
  rintro ⟨m, mp, a0, cap0⟩ ⟨hwf, hdur⟩
  simp only [dparts, List.cons_append, List.nil_append]
  refine J.openT (by repeat (first | exact .here | apply Take.there)) dk_open ?_
  rintro ⟨m2, mp2, a2, cap2⟩ ⟨hwf2, hdur2⟩
  simp only [dparts, List.cons_append, List.nil_append]
  refine J.seq ?_
  refine J.region ?_
  refine JL.rd (Rd.assign Ev.c) ?_
  refine JL.nil ?_
  refine At.next ?_
  refine J.seq ?_
  refine J.seq ?_
  refine J.region ?_
  refine JL.rd (Rd.move (t1 rfl rfl)) ?_
  refine JL.rd (Rd.eqlNil (t0 rfl) Try.runUnderlying23) ?_
  refine JL.rd (Rd.move (t0 rfl)) ?_
  refine JL.rdG rfl (EvB (t0 rfl) rfl) rfl (Rd.move (t5 rfl rfl)) ?_
  refine JL.rdG rfl (EvB (t1 rfl rfl) rfl) rfl (Rd.eqlNil (t0 rfl) Try.runUnderlying23) ?_
  refine JL.rd (Rd.pickF (EvB (t2 rfl rfl) rfl) (t0 rfl)) ?_
  refine JL.nil ?_
  refine At.next ?_
  refine J.condF (EvB (t0 rfl) rfl) ?_
  refine J.skip ?_
  refine At.next ?_
  refine J.seq ?_
  refine J.draw [⟨false, 0, 0⟩, ⟨false, 0, 0⟩, ⟨false, 0, 0⟩, ⟨false, 0, 0⟩, ⟨false, 0, 0⟩, ⟨false, 0, 0⟩, ⟨false, 0, 0⟩, ⟨false, 0, 0⟩, ⟨false, 0, 0⟩, ⟨false, 0, 0⟩, ⟨false, 0, 0⟩, ⟨false, 0, 0⟩, ⟨false, 0, 0⟩, ⟨false, 0, 0⟩, ⟨false, 0, 0⟩, ⟨false, 0, 0⟩, ⟨false, 0, 0⟩, ⟨false, 0, 0⟩, ⟨true, 0, 0⟩, ⟨false, 1, 1⟩, ⟨false, 1, 1⟩, ⟨false, 1, 1⟩, ⟨false, 1, 1⟩, ⟨false, 1, 1⟩, ⟨false, 1, 1⟩, ⟨false, 1, 1⟩, ⟨false, 1, 1⟩, ⟨false, 1, 1⟩, ⟨false, 1, 1⟩, ⟨true, 1, 1⟩, ⟨false, 2, 2⟩, ⟨false, 2, 2⟩, ⟨false, 2, 2⟩, ⟨false, 2, 2⟩, ⟨false, 2, 2⟩, ⟨false, 2, 2⟩, ⟨false, 2, 2⟩, ⟨false, 2, 2⟩, ⟨false, 2, 2⟩, ⟨false, 2, 2⟩, ⟨false, 2, 2⟩, ⟨false, 2, 2⟩, ⟨false, 2, 2⟩, ⟨false, 2, 2⟩, ⟨false, 2, 2⟩, ⟨false, 2, 2⟩, ⟨false, 2, 2⟩, ⟨false, 2, 2⟩, ⟨false, 2, 2⟩, ⟨false, 2, 2⟩, ⟨false, 2, 2⟩, ⟨false, 2, 2⟩, ⟨false, 2, 2⟩, ⟨false, 2, 2⟩] [18, 29] mixed rfl ?_
  refine DRun.at [] [0, 1, 2, 3, 4, 5, 6, 7, 8, 9, 10, 11, 12, 13, 14, 15, 16, 17] rfl rfl ?_ ?_
  · exact .nil
  refine DNew.rd rfl (Rd.move (t7 rfl rfl)) ?_
  refine DNew.rd rfl (Rd.nil (t0 rfl)) ?_
  refine DNew.rd rfl ((by first | exact Rd.fld0 fld_81_0 (t0 rfl) | exact Rd.fldz fld_81_0 (t0 rfl))) ?_
  refine DNew.rd rfl (Rd.ldN Try.isAgg3 (t0 rfl) (by repeat (first | exact .own | exact .rd | apply Blk.there)) (by repeat (first | exact .zero | apply Nth.succ))) ?_
  refine DNew.rd rfl (Rd.move (t12 rfl rfl)) ?_
  refine DNew.rd rfl (Rd.nil (t0 rfl)) ?_
  refine DNew.rd rfl ((by first | exact Rd.fld0 fld_81_0 (t0 rfl) | exact Rd.fldz fld_81_0 (t0 rfl))) ?_
  refine DNew.rd rfl (Rd.ldN Try.isAgg3 (t0 rfl) (by repeat (first | exact .own | exact .rd | apply Blk.there)) (by repeat (first | exact .zero | apply Nth.succ))) ?_
  refine DNew.rd rfl (Rd.eql (t4 rfl rfl) (t0 rfl)) ?_
  refine DNew.rd rfl (Rd.move (t0 rfl)) ?_
  refine DNew.caseD (t0 rfl) ?_ ?_
  · intro hb1p hb1
    refine DNew.rdG rfl rfl (EvB (t0 rfl) hb1) rfl (Rd.move (t17 rfl rfl)) ?_
    refine DNew.rdG rfl rfl (EvB (t1 rfl rfl) hb1) rfl (Rd.nil (t0 rfl)) ?_
    refine DNew.rdG rfl rfl (EvB (t2 rfl rfl) hb1) rfl ((by first | exact Rd.fld0 fld_81_1 (t0 rfl) | exact Rd.fld fld_81_1 (t0 rfl))) ?_
    refine DNew.rdG rfl rfl (EvB (t3 rfl rfl) hb1) rfl (Rd.ldN Try.isAgg78 (t0 rfl) (by repeat (first | exact .own | exact .rd | apply Blk.there)) (by repeat (first | exact .zero | apply Nth.succ))) ?_
    refine DNew.rdG rfl rfl (EvB (t4 rfl rfl) hb1) rfl (Rd.move (t22 rfl rfl)) ?_
    refine DNew.rdG rfl rfl (EvB (t5 rfl rfl) hb1) rfl (Rd.nil (t0 rfl)) ?_
    refine DNew.rdG rfl rfl (EvB (t6 rfl rfl) hb1) rfl ((by first | exact Rd.fld0 fld_81_1 (t0 rfl) | exact Rd.fld fld_81_1 (t0 rfl))) ?_
    refine DNew.rdG rfl rfl (EvB (t7 rfl rfl) hb1) rfl (Rd.ldN Try.isAgg78 (t0 rfl) (by repeat (first | exact .own | exact .rd | apply Blk.there)) (by repeat (first | exact .zero | apply Nth.succ))) ?_
    refine DNew.nil ?_
    refine DRun.efG rfl rfl (EvB (t8 rfl rfl) hb1) rfl (Ef.call (.cons (t4 rfl rfl) (.cons (t0 rfl) .nil)) (mapsequal_any m m2 mp mp2 (dur_blks hdur hwf.dur) (dur_blks hdur2 hwf2.dur)) (by repeat (first | exact Sel.nil | apply Sel.cons (by repeat (first | exact .here | apply Take.there)))) ?_)
    rintro - -
    simp only [List.cons_append, List.nil_append]
    refine DRun.at [] [19, 20, 21, 22, 23, 24, 25, 26, 27, 28] rfl rfl ?_ ?_
    · exact .nil
    refine DNew.rd rfl (Rd.pickT (EvB (t9 rfl rfl) hb1) (t0 rfl)) ?_
    refine DNew.rd rfl (Rd.move (t0 rfl)) ?_
    refine DNew.caseB (t0 rfl) ?_ ?_
    · intro hb2
      refine DNew.rdG rfl rfl (EvB (t0 rfl) hb2) rfl (Rd.move (t28 rfl rfl)) ?_
      refine DNew.rdG rfl rfl (EvB (t1 rfl rfl) hb2) rfl (Rd.nil (t0 rfl)) ?_
      refine DNew.rdG rfl rfl (EvB (t2 rfl rfl) hb2) rfl ((by first | exact Rd.fld0 fld_81_2 (t0 rfl) | exact Rd.fld fld_81_2 (t0 rfl))) ?_
      refine DNew.rdG rfl rfl (EvB (t3 rfl rfl) hb2) rfl (Rd.ldN Try.isAgg79 (t0 rfl) (by repeat (first | exact .own | exact .rd | apply Blk.there)) (by repeat (first | exact .zero | apply Nth.succ))) ?_
      refine DNew.rdG rfl rfl (EvB (t4 rfl rfl) hb2) rfl (Rd.move (t33 rfl rfl)) ?_
      refine DNew.rdG rfl rfl (EvB (t5 rfl rfl) hb2) rfl (Rd.nil (t0 rfl)) ?_
      refine DNew.rdG rfl rfl (EvB (t6 rfl rfl) hb2) rfl ((by first | exact Rd.fld0 fld_81_2 (t0 rfl) | exact Rd.fld fld_81_2 (t0 rfl))) ?_
      refine DNew.rdG rfl rfl (EvB (t7 rfl rfl) hb2) rfl (Rd.ldN Try.isAgg79 (t0 rfl) (by repeat (first | exact .own | exact .rd | apply Blk.there)) (by repeat (first | exact .zero | apply Nth.succ))) ?_
      refine DNew.nil ?_
      refine DRun.efG rfl rfl (EvB (t8 rfl rfl) hb2) rfl (Ef.call (.cons (t4 rfl rfl) (.cons (t0 rfl) .nil)) (slequal_any a0 a2 cap0 cap2 D.pend E.pend hwf.plen (fun p hp => (hwf.pend p hp).2) (fun p hp => (hwf2.pend p hp).2)) (by repeat (first | exact Sel.nil | apply Sel.cons (by repeat (first | exact .here | apply Take.there)))) ?_)
      rintro - -
      simp only [List.cons_append, List.nil_append]
      refine DRun.end [] [30, 31, 32, 33, 34, 35, 36, 37, 38, 39, 40, 41, 42, 43, 44, 45, 46, 47, 48, 49, 50, 51, 52, 53] rfl rfl ?_ ?_
      · exact .nil
      refine DNew.rd rfl (Rd.pickT (EvB (t9 rfl rfl) hb2) (t0 rfl)) ?_
      refine DNew.rd rfl (Rd.move (t0 rfl)) ?_
      refine DNew.caseD (t0 rfl) ?_ ?_
      · intro hb3p hb3
        refine DNew.rdG rfl rfl (EvB (t0 rfl) hb3) rfl (Rd.move (t39 rfl rfl)) ?_
        refine DNew.rdG rfl rfl (EvB (t1 rfl rfl) hb3) rfl (Rd.nil (t0 rfl)) ?_
        refine DNew.rdG rfl rfl (EvB (t2 rfl rfl) hb3) rfl ((by first | exact Rd.fld0 fld_81_4 (t0 rfl) | exact Rd.fld fld_81_4 (t0 rfl))) ?_
        refine DNew.rdG rfl rfl (EvB (t3 rfl rfl) hb3) rfl (Rd.ldN Try.isAgg3 (t0 rfl) (by repeat (first | exact .own | exact .rd | apply Blk.there)) (by repeat (first | exact .zero | apply Nth.succ))) ?_
        refine DNew.rdG rfl rfl (EvB (t4 rfl rfl) hb3) rfl (Rd.move (t44 rfl rfl)) ?_
        refine DNew.rdG rfl rfl (EvB (t5 rfl rfl) hb3) rfl (Rd.nil (t0 rfl)) ?_
        refine DNew.rdG rfl rfl (EvB (t6 rfl rfl) hb3) rfl ((by first | exact Rd.fld0 fld_81_4 (t0 rfl) | exact Rd.fld fld_81_4 (t0 rfl))) ?_
        refine DNew.rdG rfl rfl (EvB (t7 rfl rfl) hb3) rfl (Rd.ldN Try.isAgg3 (t0 rfl) (by repeat (first | exact .own | exact .rd | apply Blk.there)) (by repeat (first | exact .zero | apply Nth.succ))) ?_
        refine DNew.rdG rfl rfl (EvB (t8 rfl rfl) hb3) rfl (Rd.eql (t4 rfl rfl) (t0 rfl)) ?_
        refine DNew.rd rfl (Rd.pickT (EvB (t9 rfl rfl) hb3) (t0 rfl)) ?_
        refine DNew.rd rfl (Rd.move (t0 rfl)) ?_
        refine DNew.caseD (t0 rfl) ?_ ?_
        · intro hb4p hb4
          refine DNew.rdG rfl rfl (EvB (t0 rfl) hb4) rfl (Rd.move (t50 rfl rfl)) ?_
          refine DNew.rdG rfl rfl (EvB (t1 rfl rfl) hb4) rfl (Rd.nil (t0 rfl)) ?_
          refine DNew.rdG rfl rfl (EvB (t2 rfl rfl) hb4) rfl ((by first | exact Rd.fld0 fld_81_5 (t0 rfl) | exact Rd.fld fld_81_5 (t0 rfl))) ?_
          refine DNew.rdG rfl rfl (EvB (t3 rfl rfl) hb4) rfl (Rd.ldN Try.isAgg4 (t0 rfl) (by repeat (first | exact .own | exact .rd | apply Blk.there)) (by repeat (first | exact .zero | apply Nth.succ))) ?_
          refine DNew.rdG rfl rfl (EvB (t4 rfl rfl) hb4) rfl (Rd.move (t55 rfl rfl)) ?_
          refine DNew.rdG rfl rfl (EvB (t5 rfl rfl) hb4) rfl (Rd.nil (t0 rfl)) ?_
          refine DNew.rdG rfl rfl (EvB (t6 rfl rfl) hb4) rfl ((by first | exact Rd.fld0 fld_81_5 (t0 rfl) | exact Rd.fld fld_81_5 (t0 rfl))) ?_
          refine DNew.rdG rfl rfl (EvB (t7 rfl rfl) hb4) rfl (Rd.ldN Try.isAgg4 (t0 rfl) (by repeat (first | exact .own | exact .rd | apply Blk.there)) (by repeat (first | exact .zero | apply Nth.succ))) ?_
          refine DNew.rdG rfl rfl (EvB (t8 rfl rfl) hb4) rfl (Rd.bool2 (t4 rfl rfl) (t0 rfl) Try.runUnderlying4 (by simp)) ?_
          refine DNew.rd rfl (Rd.pickT (EvB (t9 rfl rfl) hb4) (t0 rfl)) ?_
          refine DNew.rd rfl (Rd.assign (t0 rfl)) ?_
          refine DNew.nil ?_
          refine At.next ?_
          refine J.ret ?_
          refine At.shutDk (d := d) hwf hdur (by repeat (first | exact .here | apply Take.there)) (by repeat (first | exact .here | apply Take.there)) (by repeat (first | exact .here | apply Take.there)) ?_
          refine At.shutDk (d := c) hwf2 hdur2 (by repeat (first | exact .here | apply Take.there)) (by repeat (first | exact .here | apply Take.there)) (by repeat (first | exact .here | apply Take.there)) ?_
          exact At.ret (()) (trivial) (ResV.one rfl (t0 rfl)) (by rw [same_eq hdur hdur2]; first | (simp only [*, Bool.false_and, Bool.and_false, Bool.true_and, reduceIte]; done) | (simp [*]; done)) (fun _ => Stars.sel (by repeat (first | exact Sel.nil | apply Sel.cons (by repeat (first | exact .here | apply Take.there)))))
        · intro hb4p hb4
          refine DNew.skG rfl rfl (EvB (t0 rfl) hb4) rfl ?_
          refine DNew.skG rfl rfl (EvB (t1 rfl rfl) hb4) rfl ?_
          refine DNew.skG rfl rfl (EvB (t2 rfl rfl) hb4) rfl ?_
          refine DNew.skG rfl rfl (EvB (t3 rfl rfl) hb4) rfl ?_
          refine DNew.skG rfl rfl (EvB (t4 rfl rfl) hb4) rfl ?_
          refine DNew.skG rfl rfl (EvB (t5 rfl rfl) hb4) rfl ?_
          refine DNew.skG rfl rfl (EvB (t6 rfl rfl) hb4) rfl ?_
          refine DNew.skG rfl rfl (EvB (t7 rfl rfl) hb4) rfl ?_
          refine DNew.skG rfl rfl (EvB (t8 rfl rfl) hb4) rfl ?_
          refine DNew.rd rfl (Rd.pickF (EvB (t9 rfl rfl) hb4) Ev.c) ?_
          refine DNew.rd rfl (Rd.assign (t0 rfl)) ?_
          refine DNew.nil ?_
          refine At.next ?_
          refine J.ret ?_
          refine At.shutDk (d := d) hwf hdur (by repeat (first | exact .here | apply Take.there)) (by repeat (first | exact .here | apply Take.there)) (by repeat (first | exact .here | apply Take.there)) ?_
          refine At.shutDk (d := c) hwf2 hdur2 (by repeat (first | exact .here | apply Take.there)) (by repeat (first | exact .here | apply Take.there)) (by repeat (first | exact .here | apply Take.there)) ?_
          exact At.ret (()) (trivial) (ResV.one rfl (t0 rfl)) (by rw [same_eq hdur hdur2]; first | (simp only [*, Bool.false_and, Bool.and_false, Bool.true_and, reduceIte]; done) | (simp [*]; done)) (fun _ => Stars.sel (by repeat (first | exact Sel.nil | apply Sel.cons (by repeat (first | exact .here | apply Take.there)))))
      · intro hb3p hb3
        refine DNew.skG rfl rfl (EvB (t0 rfl) hb3) rfl ?_
        refine DNew.skG rfl rfl (EvB (t1 rfl rfl) hb3) rfl ?_
        refine DNew.skG rfl rfl (EvB (t2 rfl rfl) hb3) rfl ?_
        refine DNew.skG rfl rfl (EvB (t3 rfl rfl) hb3) rfl ?_
        refine DNew.skG rfl rfl (EvB (t4 rfl rfl) hb3) rfl ?_
        refine DNew.skG rfl rfl (EvB (t5 rfl rfl) hb3) rfl ?_
        refine DNew.skG rfl rfl (EvB (t6 rfl rfl) hb3) rfl ?_
        refine DNew.skG rfl rfl (EvB (t7 rfl rfl) hb3) rfl ?_
        refine DNew.skG rfl rfl (EvB (t8 rfl rfl) hb3) rfl ?_
        refine DNew.rd rfl (Rd.pickF (EvB (t9 rfl rfl) hb3) Ev.c) ?_
        refine DNew.rd rfl (Rd.move (t0 rfl)) ?_
        refine DNew.skG rfl rfl (t0 rfl) rfl ?_
        refine DNew.skG rfl rfl (t1 rfl rfl) rfl ?_
        refine DNew.skG rfl rfl (t2 rfl rfl) rfl ?_
        refine DNew.skG rfl rfl (t3 rfl rfl) rfl ?_
        refine DNew.skG rfl rfl (t4 rfl rfl) rfl ?_
        refine DNew.skG rfl rfl (t5 rfl rfl) rfl ?_
        refine DNew.skG rfl rfl (t6 rfl rfl) rfl ?_
        refine DNew.skG rfl rfl (t7 rfl rfl) rfl ?_
        refine DNew.skG rfl rfl (t8 rfl rfl) rfl ?_
        refine DNew.rd rfl (Rd.pickF (t9 rfl rfl) Ev.c) ?_
        refine DNew.rd rfl (Rd.assign (t0 rfl)) ?_
        refine DNew.nil ?_
        refine At.next ?_
        refine J.ret ?_
        refine At.shutDk (d := d) hwf hdur (by repeat (first | exact .here | apply Take.there)) (by repeat (first | exact .here | apply Take.there)) (by repeat (first | exact .here | apply Take.there)) ?_
        refine At.shutDk (d := c) hwf2 hdur2 (by repeat (first | exact .here | apply Take.there)) (by repeat (first | exact .here | apply Take.there)) (by repeat (first | exact .here | apply Take.there)) ?_
        exact At.ret (()) (trivial) (ResV.one rfl (t0 rfl)) (by rw [same_eq hdur hdur2]; first | (simp only [*, Bool.false_and, Bool.and_false, Bool.true_and, reduceIte]; done) | (simp [*]; done)) (fun _ => Stars.sel (by repeat (first | exact Sel.nil | apply Sel.cons (by repeat (first | exact .here | apply Take.there)))))
    · intro hb2
      refine DNew.skG rfl rfl (EvB (t0 rfl) hb2) rfl ?_
      refine DNew.skG rfl rfl (EvB (t1 rfl rfl) hb2) rfl ?_
      refine DNew.skG rfl rfl (EvB (t2 rfl rfl) hb2) rfl ?_
      refine DNew.skG rfl rfl (EvB (t3 rfl rfl) hb2) rfl ?_
      refine DNew.skG rfl rfl (EvB (t4 rfl rfl) hb2) rfl ?_
      refine DNew.skG rfl rfl (EvB (t5 rfl rfl) hb2) rfl ?_
      refine DNew.skG rfl rfl (EvB (t6 rfl rfl) hb2) rfl ?_
      refine DNew.skG rfl rfl (EvB (t7 rfl rfl) hb2) rfl ?_
      refine DNew.nil ?_
      refine DRun.skG rfl rfl (EvB (t8 rfl rfl) hb2) rfl ?_
      refine DRun.end [] [30, 31, 32, 33, 34, 35, 36, 37, 38, 39, 40, 41, 42, 43, 44, 45, 46, 47, 48, 49, 50, 51, 52, 53] rfl rfl ?_ ?_
      · exact .nil
      refine DNew.rd rfl (Rd.pickF (EvB (t9 rfl rfl) hb2) Ev.c) ?_
      refine DNew.rd rfl (Rd.move (t0 rfl)) ?_
      refine DNew.skG rfl rfl (t0 rfl) rfl ?_
      refine DNew.skG rfl rfl (t1 rfl rfl) rfl ?_
      refine DNew.skG rfl rfl (t2 rfl rfl) rfl ?_
      refine DNew.skG rfl rfl (t3 rfl rfl) rfl ?_
      refine DNew.skG rfl rfl (t4 rfl rfl) rfl ?_
      refine DNew.skG rfl rfl (t5 rfl rfl) rfl ?_
      refine DNew.skG rfl rfl (t6 rfl rfl) rfl ?_
      refine DNew.skG rfl rfl (t7 rfl rfl) rfl ?_
      refine DNew.skG rfl rfl (t8 rfl rfl) rfl ?_
      refine DNew.rd rfl (Rd.pickF (t9 rfl rfl) Ev.c) ?_
      refine DNew.rd rfl (Rd.move (t0 rfl)) ?_
      refine DNew.skG rfl rfl (t0 rfl) rfl ?_
      refine DNew.skG rfl rfl (t1 rfl rfl) rfl ?_
      refine DNew.skG rfl rfl (t2 rfl rfl) rfl ?_
      refine DNew.skG rfl rfl (t3 rfl rfl) rfl ?_
      refine DNew.skG rfl rfl (t4 rfl rfl) rfl ?_
      refine DNew.skG rfl rfl (t5 rfl rfl) rfl ?_
      refine DNew.skG rfl rfl (t6 rfl rfl) rfl ?_
      refine DNew.skG rfl rfl (t7 rfl rfl) rfl ?_
      refine DNew.skG rfl rfl (t8 rfl rfl) rfl ?_
      refine DNew.rd rfl (Rd.pickF (t9 rfl rfl) Ev.c) ?_
      refine DNew.rd rfl (Rd.assign (t0 rfl)) ?_
      refine DNew.nil ?_
      refine At.next ?_
      refine J.ret ?_
      refine At.shutDk (d := d) hwf hdur (by repeat (first | exact .here | apply Take.there)) (by repeat (first | exact .here | apply Take.there)) (by repeat (first | exact .here | apply Take.there)) ?_
      refine At.shutDk (d := c) hwf2 hdur2 (by repeat (first | exact .here | apply Take.there)) (by repeat (first | exact .here | apply Take.there)) (by repeat (first | exact .here | apply Take.there)) ?_
      exact At.ret (()) (trivial) (ResV.one rfl (t0 rfl)) (by rw [same_eq hdur hdur2]; first | (simp only [*, Bool.false_and, Bool.and_false, Bool.true_and, reduceIte]; done) | (simp [*]; done)) (fun _ => Stars.sel (by repeat (first | exact Sel.nil | apply Sel.cons (by repeat (first | exact .here | apply Take.there)))))
  · intro hb1p hb1
    refine DNew.skG rfl rfl (EvB (t0 rfl) hb1) rfl ?_
    refine DNew.skG rfl rfl (EvB (t1 rfl rfl) hb1) rfl ?_
    refine DNew.skG rfl rfl (EvB (t2 rfl rfl) hb1) rfl ?_
    refine DNew.skG rfl rfl (EvB (t3 rfl rfl) hb1) rfl ?_
    refine DNew.skG rfl rfl (EvB (t4 rfl rfl) hb1) rfl ?_
    refine DNew.skG rfl rfl (EvB (t5 rfl rfl) hb1) rfl ?_
    refine DNew.skG rfl rfl (EvB (t6 rfl rfl) hb1) rfl ?_
    refine DNew.skG rfl rfl (EvB (t7 rfl rfl) hb1) rfl ?_
    refine DNew.nil ?_
    refine DRun.skG rfl rfl (EvB (t8 rfl rfl) hb1) rfl ?_
    refine DRun.at [] [19, 20, 21, 22, 23, 24, 25, 26, 27, 28] rfl rfl ?_ ?_
    · exact .nil
    refine DNew.rd rfl (Rd.pickF (EvB (t9 rfl rfl) hb1) Ev.c) ?_
    refine DNew.rd rfl (Rd.move (t0 rfl)) ?_
    refine DNew.skG rfl rfl (t0 rfl) rfl ?_
    refine DNew.skG rfl rfl (t1 rfl rfl) rfl ?_
    refine DNew.skG rfl rfl (t2 rfl rfl) rfl ?_
    refine DNew.skG rfl rfl (t3 rfl rfl) rfl ?_
    refine DNew.skG rfl rfl (t4 rfl rfl) rfl ?_
    refine DNew.skG rfl rfl (t5 rfl rfl) rfl ?_
    refine DNew.skG rfl rfl (t6 rfl rfl) rfl ?_
    refine DNew.skG rfl rfl (t7 rfl rfl) rfl ?_
    refine DNew.nil ?_
    refine DRun.skG rfl rfl (t8 rfl rfl) rfl ?_
    refine DRun.end [] [30, 31, 32, 33, 34, 35, 36, 37, 38, 39, 40, 41, 42, 43, 44, 45, 46, 47, 48, 49, 50, 51, 52, 53] rfl rfl ?_ ?_
    · exact .nil
    refine DNew.rd rfl (Rd.pickF (t9 rfl rfl) Ev.c) ?_
    refine DNew.rd rfl (Rd.move (t0 rfl)) ?_
    refine DNew.skG rfl rfl (t0 rfl) rfl ?_
    refine DNew.skG rfl rfl (t1 rfl rfl) rfl ?_
    refine DNew.skG rfl rfl (t2 rfl rfl) rfl ?_
    refine DNew.skG rfl rfl (t3 rfl rfl) rfl ?_
    refine DNew.skG rfl rfl (t4 rfl rfl) rfl ?_
    refine DNew.skG rfl rfl (t5 rfl rfl) rfl ?_
    refine DNew.skG rfl rfl (t6 rfl rfl) rfl ?_
    refine DNew.skG rfl rfl (t7 rfl rfl) rfl ?_
    refine DNew.skG rfl rfl (t8 rfl rfl) rfl ?_
    refine DNew.rd rfl (Rd.pickF (t9 rfl rfl) Ev.c) ?_
    refine DNew.rd rfl (Rd.move (t0 rfl)) ?_
    refine DNew.skG rfl rfl (t0 rfl) rfl ?_
    refine DNew.skG rfl rfl (t1 rfl rfl) rfl ?_
    refine DNew.skG rfl rfl (t2 rfl rfl) rfl ?_
    refine DNew.skG rfl rfl (t3 rfl rfl) rfl ?_
    refine DNew.skG rfl rfl (t4 rfl rfl) rfl ?_
    refine DNew.skG rfl rfl (t5 rfl rfl) rfl ?_
    refine DNew.skG rfl rfl (t6 rfl rfl) rfl ?_
    refine DNew.skG rfl rfl (t7 rfl rfl) rfl ?_
    refine DNew.skG rfl rfl (t8 rfl rfl) rfl ?_
    refine DNew.rd rfl (Rd.pickF (t9 rfl rfl) Ev.c) ?_
    refine DNew.rd rfl (Rd.assign (t0 rfl)) ?_
    refine DNew.nil ?_
    refine At.next ?_
    refine J.ret ?_
    refine At.shutDk (d := d) hwf hdur (by repeat (first | exact .here | apply Take.there)) (by repeat (first | exact .here | apply Take.there)) (by repeat (first | exact .here | apply Take.there)) ?_
    refine At.shutDk (d := c) hwf2 hdur2 (by repeat (first | exact .here | apply Take.there)) (by repeat (first | exact .here | apply Take.there)) (by repeat (first | exact .here | apply Take.there)) ?_
    exact At.ret (()) (trivial) (ResV.one rfl (t0 rfl)) (by rw [same_eq hdur hdur2]; first | (simp only [*, Bool.false_and, Bool.and_false, Bool.true_and, reduceIte]; done) | (simp [*]; done)) (fun _ => Stars.sel (by repeat (first | exact Sel.nil | apply Sel.cons (by repeat (first | exact .here | apply Take.there)))))

set_option maxRecDepth 100000 in
set_option maxHeartbeats 400000 in
theorem equal_dnil (d : Nat) (D : Dk) :
    Fn Try.prog 34 [.pointer (some ⟨d, 0, none⟩), .pointer none] [dk d D] (X := Unit) (fun _ => True) (fun _ => .bool false) (fun _ => [dk d D]) := by
  refine Fn.mk' (n := 67) (l := [(0, .pointer (some ⟨d, 0, none⟩)), (1, .pointer none)]) (fn := Try.f34) Try.func34 (by kernel_rfl) rfl rfl (by simp) rfl ?_
  intro h0 w0
  refine J.seq ?_
  refine J.region ?_
  refine JL.rd (Rd.assign Ev.c) ?_
  refine JL.nil ?_
  refine At.next ?_
  refine J.seq ?_
  refine J.seq ?_
  refine J.region ?_
  refine JL.rd (Rd.move (t1 rfl rfl)) ?_
  refine JL.rd (Rd.eqlNil (t0 rfl) Try.runUnderlying23) ?_
  refine JL.rd (Rd.move (t0 rfl)) ?_
  refine JL.rdG rfl (EvB (t0 rfl) rfl) rfl (Rd.move (t5 rfl rfl)) ?_
  refine JL.rdG rfl (EvB (t1 rfl rfl) rfl) rfl (Rd.eqlNil (t0 rfl) Try.runUnderlying23) ?_
  refine JL.rd (Rd.pickF (EvB (t2 rfl rfl) rfl) (t0 rfl)) ?_
  refine JL.nil ?_
  refine At.next ?_
  refine J.condT (EvB (t0 rfl) rfl) ?_
  refine J.seq ?_
  refine J.region ?_
  refine JL.rd (Rd.move (t7 rfl rfl)) ?_
  refine JL.rd (Rd.move (t9 rfl rfl)) ?_
  refine JL.rd (Rd.eqlPP (t1 rfl rfl) (t0 rfl) Try.runUnderlying23) ?_
  refine JL.rd (Rd.assign (t0 rfl)) ?_
  refine JL.nil ?_
  refine At.next ?_
  refine J.ret ?_
  refine At.nextR ?_
  exact At.ret (()) (trivial) (ResV.one rfl (t0 rfl)) rfl (fun _ => Stars.sel (by repeat (first | exact Sel.nil | apply Sel.cons (by repeat (first | exact .here | apply Take.there)))))

theorem eqgW : Try.prog.eqGuardType Try.prog.depth 65 = false := by kernel_rfl
theorem stoodW : Try.prog.stoodInHeld 65 = false := by kernel_rfl
theorem eqW (p q : Nat × List UInt8) : EqAt Try.prog 10000 65 (.agg [Value.int .i64 (p.1 : Int), str p.2].toArray) (.agg [Value.int .i64 (q.1 : Int), str q.2].toArray) (decide (p = q)) := by
  have h := EqAt.s2 (P := Try.prog) (k := 9999) (xs := [Value.int .i64 (p.1 : Int), str p.2].toArray) (ys := [Value.int .i64 (q.1 : Int), str q.2].toArray) Try.runUnderlying65 stoodW (by decide) (by decide) (x1 := .int .i64 (p.1 : Int)) (y1 := .int .i64 (q.1 : Int)) (x2 := str p.2) (y2 := str q.2)
    (fun w => by simp only [part, Sem.run_bind, Try.isAgg3 w, Result.andThen]; rfl) (fun w => by simp only [part, Sem.run_bind, Try.isAgg9 w, Result.andThen]; rfl)
    (fun w => by simp only [part, Sem.run_bind, Try.isAgg3 w, Result.andThen]; rfl) (fun w => by simp only [part, Sem.run_bind, Try.isAgg9 w, Result.andThen]; rfl)
    (EqAt.int Try.runUnderlying3 _ _) (EqAt.strs Try.runUnderlying9 _ _)
  have e : (decide ((p.1 : Int) = (q.1 : Int)) && decide (p.2 = q.2)) = decide (p = q) := by
    obtain ⟨p1, p2⟩ := p
    obtain ⟨q1, q2⟩ := q
    rw [← Bool.decide_and, decide_eq_decide]
    constructor
    · rintro ⟨h1, h2⟩
      have h3 : p1 = q1 := Int.ofNat.inj h1
      have h4 : p2 = q2 := h2
      rw [h3, h4]
    · intro h1
      cases h1
      exact ⟨rfl, rfl⟩
  rw [e] at h
  exact h

set_option maxRecDepth 100000 in
set_option maxHeartbeats 400000 in
theorem rsame_any (r1 r2 : Option Addr) (k1 k2 : Nat) (D : Dk) (hwf : D.wf) (s1 s2 : Option Addr) (j1 j2 : Nat) (E : Dk) (hwf2 : E.wf) :
    Fn Try.prog 35 [refV r1 k1 r2 k2 D, refV s1 j1 s2 j2 E] [rowR r1 1 (durs D.n D.dur), rowR r2 2 (D.pend.map wcell), rowR s1 1 (durs E.n E.dur), rowR s2 2 (E.pend.map wcell)] (X := Unit) (fun _ => True) (fun _ => .bool (sameB D E)) (fun _ => [rowR r1 1 (durs D.n D.dur), rowR r2 2 (D.pend.map wcell), rowR s1 1 (durs E.n E.dur), rowR s2 2 (E.pend.map wcell)]) := by
  refine Fn.mk' (n := 73) (l := [(0, refV r1 k1 r2 k2 D), (1, refV s1 j1 s2 j2 E)]) (fn := Try.f35) Try.func35 (by kernel_rfl) rfl rfl (by simp) rfl ?_
  intro h0 w0
  have hlen := hwf.plen
  have hn2 := hwf.n2
  have hn1 := hwf.n1
  have hlen2 := hwf2.plen
  have hn22 := hwf2.n2
  refine J.seq ?_
  refine J.region ?_
  refine JL.ef (Ef.box (t0 rfl) rfl ?_)
  intro b1
  refine JL.ef (Ef.box (t2 rfl rfl) rfl ?_)
  intro b2
  refine JL.rd (Rd.assign Ev.c) ?_
  refine JL.nil ?_
  refine At.next ?_
  refine J.seq ?_
  refine J.seq ?_
  refine J.region ?_
  refine JL.rd ((by first | exact Rd.fld0 fld_51_0 (t2 rfl rfl) | exact Rd.fldz fld_51_0 (t2 rfl rfl))) ?_
  refine JL.rd (Rd.ldN Try.isAgg48 (t0 rfl) (by repeat (first | exact .own | exact .rd | apply Blk.there)) (by repeat (first | exact .zero | apply Nth.succ))) ?_
  refine JL.rd (Rd.len Try.runUnderlying48 (t0 rfl)) ?_
  refine JL.rd ((by first | exact Rd.fld0 fld_51_0 (t4 rfl rfl) | exact Rd.fldz fld_51_0 (t4 rfl rfl))) ?_
  refine JL.rd (Rd.ldN Try.isAgg48 (t0 rfl) (by repeat (first | exact .own | exact .rd | apply Blk.there)) (by repeat (first | exact .zero | apply Nth.succ))) ?_
  refine JL.rd (Rd.len Try.runUnderlying48 (t0 rfl)) ?_
  refine JL.rd (Rd.neq (t3 rfl rfl) (t0 rfl)) ?_
  refine JL.rd (Rd.move (t0 rfl)) ?_
  refine JL.caseD (t0 rfl) ?_ ?_
  · intro hb3p hb3
    refine JL.skG rfl (EvB (t0 rfl) hb3) rfl ?_
    refine JL.skG rfl (EvB (t1 rfl rfl) hb3) rfl ?_
    refine JL.skG rfl (EvB (t2 rfl rfl) hb3) rfl ?_
    refine JL.skG rfl (EvB (t3 rfl rfl) hb3) rfl ?_
    refine JL.skG rfl (EvB (t4 rfl rfl) hb3) rfl ?_
    refine JL.skG rfl (EvB (t5 rfl rfl) hb3) rfl ?_
    refine JL.skG rfl (EvB (t6 rfl rfl) hb3) rfl ?_
    refine JL.rd (Rd.pickT (EvB (t7 rfl rfl) hb3) Ev.c) ?_
    refine JL.rd (Rd.move (t0 rfl)) ?_
    refine JL.skG rfl (t0 rfl) rfl ?_
    refine JL.skG rfl (t1 rfl rfl) rfl ?_
    refine JL.skG rfl (t2 rfl rfl) rfl ?_
    refine JL.skG rfl (t3 rfl rfl) rfl ?_
    refine JL.skG rfl (t4 rfl rfl) rfl ?_
    refine JL.rd (Rd.pickT (t5 rfl rfl) Ev.c) ?_
    refine JL.rd (Rd.move (t0 rfl)) ?_
    refine JL.skG rfl (t0 rfl) rfl ?_
    refine JL.skG rfl (t1 rfl rfl) rfl ?_
    refine JL.skG rfl (t2 rfl rfl) rfl ?_
    refine JL.skG rfl (t3 rfl rfl) rfl ?_
    refine JL.skG rfl (t4 rfl rfl) rfl ?_
    refine JL.rd (Rd.pickT (t5 rfl rfl) Ev.c) ?_
    refine JL.nil ?_
    refine At.next ?_
    refine J.condT (t0 rfl) ?_
    refine J.seq ?_
    refine J.live (K := [(4, _), (3, _), (2, _)]) ⟨(lk30 rfl), (lk31 rfl), (lk32 rfl), trivial⟩ ?_
    intro ρ4
    refine J.region ?_
    refine JL.rd (Rd.assign Ev.c) ?_
    refine JL.nil ?_
    refine At.next ?_
    refine J.ret ?_
    refine At.nextR ?_
    exact At.ret (()) (trivial) (ResV.one rfl (t0 rfl)) (by first | (rw [sameB_false (by assumption)]; done) | (rw [sameB_true ⟨hn, hdd, heq, hli, hdo⟩]; done) | (rw [sameB_false (fun e => by obtain ⟨e1, e2, e3, e4, e5⟩ := e; simp_all)]; done)) (fun _ => Stars.sel (by repeat (first | exact Sel.nil | apply Sel.cons (by repeat (first | exact .here | apply Take.there)))))
  · intro hb3p hb3
    refine JL.rdG rfl (EvB (t0 rfl) hb3) rfl ((by first | exact Rd.fld0 fld_51_1 (t10 rfl rfl) | exact Rd.fld fld_51_1 (t10 rfl rfl))) ?_
    refine JL.rdG rfl (EvB (t1 rfl rfl) hb3) rfl (Rd.ldN Try.isAgg49 (t0 rfl) (by repeat (first | exact .own | exact .rd | apply Blk.there)) (by repeat (first | exact .zero | apply Nth.succ))) ?_
    refine JL.rdG rfl (EvB (t2 rfl rfl) hb3) rfl (Rd.len Try.runUnderlying49 (t0 rfl)) ?_
    refine JL.rdG rfl (EvB (t3 rfl rfl) hb3) rfl ((by first | exact Rd.fld0 fld_51_1 (t12 rfl rfl) | exact Rd.fld fld_51_1 (t12 rfl rfl))) ?_
    refine JL.rdG rfl (EvB (t4 rfl rfl) hb3) rfl (Rd.ldN Try.isAgg49 (t0 rfl) (by repeat (first | exact .own | exact .rd | apply Blk.there)) (by repeat (first | exact .zero | apply Nth.succ))) ?_
    refine JL.rdG rfl (EvB (t5 rfl rfl) hb3) rfl (Rd.len Try.runUnderlying49 (t0 rfl)) ?_
    refine JL.rdG rfl (EvB (t6 rfl rfl) hb3) rfl (Rd.neq (t3 rfl rfl) (t0 rfl)) ?_
    refine JL.rd (Rd.pickF (EvB (t7 rfl rfl) hb3) (t0 rfl)) ?_
    refine JL.rd (Rd.move (t0 rfl)) ?_
    refine JL.caseD (t0 rfl) ?_ ?_
    · intro hb5p hb5
      refine JL.skG rfl (EvB (t0 rfl) hb5) rfl ?_
      refine JL.skG rfl (EvB (t1 rfl rfl) hb5) rfl ?_
      refine JL.skG rfl (EvB (t2 rfl rfl) hb5) rfl ?_
      refine JL.skG rfl (EvB (t3 rfl rfl) hb5) rfl ?_
      refine JL.skG rfl (EvB (t4 rfl rfl) hb5) rfl ?_
      refine JL.rd (Rd.pickT (EvB (t5 rfl rfl) hb5) Ev.c) ?_
      refine JL.rd (Rd.move (t0 rfl)) ?_
      refine JL.skG rfl (t0 rfl) rfl ?_
      refine JL.skG rfl (t1 rfl rfl) rfl ?_
      refine JL.skG rfl (t2 rfl rfl) rfl ?_
      refine JL.skG rfl (t3 rfl rfl) rfl ?_
      refine JL.skG rfl (t4 rfl rfl) rfl ?_
      refine JL.rd (Rd.pickT (t5 rfl rfl) Ev.c) ?_
      refine JL.nil ?_
      refine At.next ?_
      refine J.condT (t0 rfl) ?_
      refine J.seq ?_
      refine J.live (K := [(4, _), (3, _), (2, _)]) ⟨(lk30 rfl), (lk31 rfl), (lk32 rfl), trivial⟩ ?_
      intro ρ6
      refine J.region ?_
      refine JL.rd (Rd.assign Ev.c) ?_
      refine JL.nil ?_
      refine At.next ?_
      refine J.ret ?_
      refine At.nextR ?_
      exact At.ret (()) (trivial) (ResV.one rfl (t0 rfl)) (by first | (rw [sameB_false (by assumption)]; done) | (rw [sameB_true ⟨hn, hdd, heq, hli, hdo⟩]; done) | (rw [sameB_false (fun e => by obtain ⟨e1, e2, e3, e4, e5⟩ := e; simp_all)]; done)) (fun _ => Stars.sel (by repeat (first | exact Sel.nil | apply Sel.cons (by repeat (first | exact .here | apply Take.there)))))
    · intro hb5p hb5
      refine JL.rdG rfl (EvB (t0 rfl) hb5) rfl ((by first | exact Rd.fld0 fld_51_2 (t19 rfl rfl) | exact Rd.fld fld_51_2 (t19 rfl rfl))) ?_
      refine JL.rdG rfl (EvB (t1 rfl rfl) hb5) rfl (Rd.ldN Try.isAgg3 (t0 rfl) (by repeat (first | exact .own | exact .rd | apply Blk.there)) (by repeat (first | exact .zero | apply Nth.succ))) ?_
      refine JL.rdG rfl (EvB (t2 rfl rfl) hb5) rfl ((by first | exact Rd.fld0 fld_51_2 (t20 rfl rfl) | exact Rd.fld fld_51_2 (t20 rfl rfl))) ?_
      refine JL.rdG rfl (EvB (t3 rfl rfl) hb5) rfl (Rd.ldN Try.isAgg3 (t0 rfl) (by repeat (first | exact .own | exact .rd | apply Blk.there)) (by repeat (first | exact .zero | apply Nth.succ))) ?_
      refine JL.rdG rfl (EvB (t4 rfl rfl) hb5) rfl (Rd.neq (t2 rfl rfl) (t0 rfl)) ?_
      refine JL.rd (Rd.pickF (EvB (t5 rfl rfl) hb5) (t0 rfl)) ?_
      refine JL.rd (Rd.move (t0 rfl)) ?_
      refine JL.caseD (t0 rfl) ?_ ?_
      · intro hb7p hb7
        refine JL.skG rfl (EvB (t0 rfl) hb7) rfl ?_
        refine JL.skG rfl (EvB (t1 rfl rfl) hb7) rfl ?_
        refine JL.skG rfl (EvB (t2 rfl rfl) hb7) rfl ?_
        refine JL.skG rfl (EvB (t3 rfl rfl) hb7) rfl ?_
        refine JL.skG rfl (EvB (t4 rfl rfl) hb7) rfl ?_
        refine JL.rd (Rd.pickT (EvB (t5 rfl rfl) hb7) Ev.c) ?_
        refine JL.nil ?_
        refine At.next ?_
        refine J.condT (t0 rfl) ?_
        refine J.seq ?_
        refine J.live (K := [(4, _), (3, _), (2, _)]) ⟨(lk30 rfl), (lk31 rfl), (lk32 rfl), trivial⟩ ?_
        intro ρ8
        refine J.region ?_
        refine JL.rd (Rd.assign Ev.c) ?_
        refine JL.nil ?_
        refine At.next ?_
        refine J.ret ?_
        refine At.nextR ?_
        exact At.ret (()) (trivial) (ResV.one rfl (t0 rfl)) (by first | (rw [sameB_false (by assumption)]; done) | (rw [sameB_true ⟨hn, hdd, heq, hli, hdo⟩]; done) | (rw [sameB_false (fun e => by obtain ⟨e1, e2, e3, e4, e5⟩ := e; simp_all)]; done)) (fun _ => Stars.sel (by repeat (first | exact Sel.nil | apply Sel.cons (by repeat (first | exact .here | apply Take.there)))))
      · intro hb7p hb7
        refine JL.rdG rfl (EvB (t0 rfl) hb7) rfl ((by first | exact Rd.fld0 fld_51_3 (t26 rfl rfl) | exact Rd.fld fld_51_3 (t26 rfl rfl))) ?_
        refine JL.rdG rfl (EvB (t1 rfl rfl) hb7) rfl (Rd.ldN Try.isAgg4 (t0 rfl) (by repeat (first | exact .own | exact .rd | apply Blk.there)) (by repeat (first | exact .zero | apply Nth.succ))) ?_
        refine JL.rdG rfl (EvB (t2 rfl rfl) hb7) rfl ((by first | exact Rd.fld0 fld_51_3 (t27 rfl rfl) | exact Rd.fld fld_51_3 (t27 rfl rfl))) ?_
        refine JL.rdG rfl (EvB (t3 rfl rfl) hb7) rfl (Rd.ldN Try.isAgg4 (t0 rfl) (by repeat (first | exact .own | exact .rd | apply Blk.there)) (by repeat (first | exact .zero | apply Nth.succ))) ?_
        refine JL.rdG rfl (EvB (t4 rfl rfl) hb7) rfl (Rd.bool2 (t2 rfl rfl) (t0 rfl) Try.runUnderlying4 (by simp)) ?_
        refine JL.rd (Rd.pickF (EvB (t5 rfl rfl) hb7) (t0 rfl)) ?_
        refine JL.nil ?_
        refine At.next ?_
        refine J.cond (t0 rfl) ?_ ?_
        · intro hc9
          refine J.seq ?_
          refine J.live (K := [(4, _), (3, _), (2, _)]) ⟨(lk30 rfl), (lk31 rfl), (lk32 rfl), trivial⟩ ?_
          intro ρ10
          refine J.region ?_
          refine JL.rd (Rd.assign Ev.c) ?_
          refine JL.nil ?_
          refine At.next ?_
          refine J.ret ?_
          refine At.nextR ?_
          exact At.ret (()) (trivial) (ResV.one rfl (t0 rfl)) (by first | (rw [sameB_false (by assumption)]; done) | (rw [sameB_true ⟨hn, hdd, heq, hli, hdo⟩]; done) | (rw [sameB_false (fun e => by obtain ⟨e1, e2, e3, e4, e5⟩ := e; simp_all)]; done)) (fun _ => Stars.sel (by repeat (first | exact Sel.nil | apply Sel.cons (by repeat (first | exact .here | apply Take.there)))))
        · intro hc9
          have hn : D.n = E.n := by omega
          have hpl : D.pend.length = E.pend.length := by omega
          have hli : D.lim = E.lim := by omega
          have hdo : D.down = E.down := by simpa using hc9
          refine J.skip ?_
          refine At.next ?_
          refine J.seq ?_
          refine J.seq ?_
          refine J.live (K := [(4, _), (3, _), (2, _)]) ⟨(lk30 rfl), (lk31 rfl), (lk32 rfl), trivial⟩ ?_
          intro ρ11
          refine J.region ?_
          refine JL.rd (Rd.assign Ev.c) ?_
          refine JL.nil ?_
          refine At.next ?_
          refine J.block ?_
          refine J.loop (X := Nat) (fun (x : Nat) => [(5, .int .i64 (x : Int))]) (K := [(4, _), (3, _), (2, _)]) (fun x => [pts b1 (.cells [Value.slice r1 D.n k1, .slice r2 D.pend.length k2, .int .i64 D.lim, .bool D.down, .int .i64 D.ops].toArray 51), pts b2 (.cells [Value.slice s1 E.n j1, .slice s2 E.pend.length j2, .int .i64 E.lim, .bool E.down, .int .i64 E.ops].toArray 51), rowR r1 1 (durs D.n D.dur), rowR r2 2 (D.pend.map wcell), rowR s1 1 (durs E.n E.dur), rowR s2 2 (E.pend.map wcell)]) (fun x => x ≤ D.n ∧ ∀ i, i < x → D.dur i = E.dur i) (fun x => D.n - x) (0) ?_ ⟨lk0.trans (by first | with_reducible rfl | (congr 1; omega) | (simp; done) | (simp [*]; done)), trivial⟩ ⟨(lk1 rfl), (lk2 rfl), (lk3 rfl), trivial⟩ (fun _ => Stars.sel (by repeat (first | exact Sel.nil | apply Sel.cons (by repeat (first | exact .here | apply Take.there))))) ?_
          · exact ⟨Nat.zero_le _, fun i h => absurd h (Nat.not_lt_zero _)⟩
          rintro x ρ ⟨hk, hdx⟩
          simp only [List.cons_append, List.nil_append]
          refine J.seq ?_
          refine J.seq ?_
          refine J.region ?_
          refine JL.rd (Rd.move (t0 rfl)) ?_
          refine JL.rd ((by first | exact Rd.fld0 fld_51_0 (t4 rfl rfl) | exact Rd.fldz fld_51_0 (t4 rfl rfl))) ?_
          refine JL.rd (Rd.ldN Try.isAgg48 (t0 rfl) (by repeat (first | exact .own | exact .rd | apply Blk.there)) (by repeat (first | exact .zero | apply Nth.succ))) ?_
          refine JL.rd (Rd.len Try.runUnderlying48 (t0 rfl)) ?_
          refine JL.rd (Rd.lss (t3 rfl rfl) (t0 rfl)) ?_
          refine JL.nil ?_
          refine At.next ?_
          refine J.condD (t0 rfl) ?_ ?_
          · intro hc12
            refine J.skip ?_
            refine At.next ?_
            refine J.seq ?_
            refine J.block ?_
            refine J.seq ?_
            have hxn : x < D.n := by omega
            have hxn2 : x < E.n := by omega
            have hdg := durs_get (dur := D.dur) hxn
            have hdg2 := durs_get (dur := E.dur) hxn2
            refine J.draw [⟨false, 0, 0⟩, ⟨false, 0, 0⟩, ⟨false, 0, 0⟩, ⟨false, 0, 0⟩, ⟨false, 0, 0⟩, ⟨false, 0, 0⟩, ⟨false, 0, 0⟩, ⟨false, 0, 0⟩, ⟨false, 0, 0⟩, ⟨false, 0, 0⟩, ⟨false, 0, 0⟩] [] mixed rfl ?_
            refine DRun.end [] [0, 1, 2, 3, 4, 5, 6, 7, 8, 9, 10] rfl rfl ?_ ?_
            · exact .nil
            refine DNew.rd rfl ((by first | exact Rd.fld0 fld_51_0 (t8 rfl rfl) | exact Rd.fldz fld_51_0 (t8 rfl rfl))) ?_
            refine DNew.rd rfl (Rd.ldN Try.isAgg48 (t0 rfl) (by repeat (first | exact .own | exact .rd | apply Blk.there)) (by repeat (first | exact .zero | apply Nth.succ))) ?_
            refine DNew.rd rfl (Rd.move (t7 rfl rfl)) ?_
            refine DNew.rd rfl (Rd.sIdx Try.runUnderlying48 Try.sizeOf9 (t1 rfl rfl) (t0 rfl) (SIn.rowR (a := r1) (by repeat (first | exact .here | apply Take.there))) (by simp) (by omega) (by omega)) ?_
            refine DNew.rd rfl (Rd.sLd Try.isAgg9 (t0 rfl) (SIn.rowR (a := r1) (by repeat (first | exact .here | apply Take.there))) (by rw [Int.toNat_natCast]; exact hdg) rfl) ?_
            refine DNew.rd rfl ((by first | exact Rd.fld0 fld_51_0 (t12 rfl rfl) | exact Rd.fldz fld_51_0 (t12 rfl rfl))) ?_
            refine DNew.rd rfl (Rd.ldN Try.isAgg48 (t0 rfl) (by repeat (first | exact .own | exact .rd | apply Blk.there)) (by repeat (first | exact .zero | apply Nth.succ))) ?_
            refine DNew.rd rfl (Rd.move (t12 rfl rfl)) ?_
            refine DNew.rd rfl (Rd.sIdx Try.runUnderlying48 Try.sizeOf9 (t1 rfl rfl) (t0 rfl) (SIn.rowR (a := s1) (by repeat (first | exact .here | apply Take.there))) (by simp) (by omega) (by omega)) ?_
            refine DNew.rd rfl (Rd.sLd Try.isAgg9 (t0 rfl) (SIn.rowR (a := s1) (by repeat (first | exact .here | apply Take.there))) (by rw [Int.toNat_natCast]; exact hdg2) rfl) ?_
            refine DNew.rd rfl (Rd.str_neq (t5 rfl rfl) (t0 rfl)) ?_
            refine DNew.nil ?_
            refine At.next ?_
            refine J.condD (t0 rfl) ?_ ?_
            · intro hc13
              have hnx : ¬ sameP D E := fun e => hc13 (e.2.1 x hxn)
              refine J.seq ?_
              refine J.region ?_
              refine JL.rd (Rd.assign Ev.c) ?_
              refine JL.nil ?_
              refine At.next ?_
              refine J.ret ?_
              refine At.blkR ?_
              refine At.nextR ?_
              refine At.loopR ?_
              refine At.blkR ?_
              refine At.nextR ?_
              exact At.ret (()) (trivial) (ResV.one rfl (t0 rfl)) (by first | (rw [sameB_false (by assumption)]; done) | (rw [sameB_true ⟨hn, hdd, heq, hli, hdo⟩]; done) | (rw [sameB_false (fun e => by obtain ⟨e1, e2, e3, e4, e5⟩ := e; simp_all)]; done)) (fun _ => Stars.sel (by repeat (first | exact Sel.nil | apply Sel.cons (by repeat (first | exact .here | apply Take.there)))))
            · intro hc13
              have hxx : D.dur x = E.dur x := by simpa using hc13
              refine J.skip ?_
              refine At.blkN ?_
              refine At.next ?_
              refine J.region ?_
              refine JL.rd (Rd.move (t16 rfl rfl)) ?_
              refine JL.rd (Rd.add (t0 rfl) Ev.c (w64 (by omega) (by omega))) ?_
              refine JL.rd (Rd.assign (t0 rfl)) ?_
              refine JL.nil ?_
              refine At.again (x + 1) ?_ ?_ ⟨lk0.trans (by first | with_reducible rfl | (congr 1; omega) | (simp; done) | (simp [*]; done)), trivial⟩ ⟨(lk20 rfl), (lk21 rfl), (lk22 rfl), trivial⟩ (fun _ => Stars.sel (by repeat (first | exact Sel.nil | apply Sel.cons (by repeat (first | exact .here | apply Take.there)))))
              · exact ⟨by omega, fun i hi => (by by_cases e : i = x; (rw [e]; exact hxx); exact hdx i (by omega))⟩
              · omega
          · intro hc12
            refine J.exit ?_
            refine At.nextX ?_
            refine At.loopX ?_
            refine At.blkX ?_
            refine At.next ?_
            refine J.seq ?_
            refine J.seq ?_
            obtain rfl : x = D.n := by omega
            have hdd := hdx
            refine J.region ?_
            refine JL.rd (Rd.assign Ev.c) ?_
            refine JL.nil ?_
            refine At.next ?_
            refine J.block ?_
            refine J.loop (X := Nat) (fun (x : Nat) => [(6, .int .i64 (x : Int))]) (K := [(4, _), (3, _), (2, _)]) (fun x => [pts b1 (.cells [Value.slice r1 D.n k1, .slice r2 D.pend.length k2, .int .i64 D.lim, .bool D.down, .int .i64 D.ops].toArray 51), pts b2 (.cells [Value.slice s1 E.n j1, .slice s2 E.pend.length j2, .int .i64 E.lim, .bool E.down, .int .i64 E.ops].toArray 51), rowR r1 1 (durs D.n D.dur), rowR r2 2 (D.pend.map wcell), rowR s1 1 (durs E.n E.dur), rowR s2 2 (E.pend.map wcell)]) (fun x => x ≤ D.pend.length ∧ D.pend.take x = E.pend.take x) (fun x => D.pend.length - x) (0) ?_ ⟨lk0.trans (by first | with_reducible rfl | (congr 1; omega) | (simp; done) | (simp [*]; done)), trivial⟩ ⟨(lk7 rfl), (lk8 rfl), (lk9 rfl), trivial⟩ (fun _ => Stars.sel (by repeat (first | exact Sel.nil | apply Sel.cons (by repeat (first | exact .here | apply Take.there))))) ?_
            · exact ⟨Nat.zero_le _, rfl⟩
            rintro x ρ ⟨hk, htk⟩
            simp only [List.cons_append, List.nil_append]
            refine J.seq ?_
            refine J.seq ?_
            refine J.region ?_
            refine JL.rd (Rd.move (t0 rfl)) ?_
            refine JL.rd ((by first | exact Rd.fld0 fld_51_1 (t4 rfl rfl) | exact Rd.fld fld_51_1 (t4 rfl rfl))) ?_
            refine JL.rd (Rd.ldN Try.isAgg49 (t0 rfl) (by repeat (first | exact .own | exact .rd | apply Blk.there)) (by repeat (first | exact .zero | apply Nth.succ))) ?_
            refine JL.rd (Rd.len Try.runUnderlying49 (t0 rfl)) ?_
            refine JL.rd (Rd.lss (t3 rfl rfl) (t0 rfl)) ?_
            refine JL.nil ?_
            refine At.next ?_
            refine J.condD (t0 rfl) ?_ ?_
            · intro hc14
              obtain ⟨p, hp⟩ : ∃ p, D.pend[x]? = some p := ⟨_, List.getElem?_eq_getElem (by omega)⟩
              obtain ⟨q, hq⟩ : ∃ q, E.pend[x]? = some q := ⟨_, List.getElem?_eq_getElem (by omega)⟩
              have hx : (D.pend.map wcell)[(x : Int).toNat]? = some [.int .i64 (p.1 : Int), str p.2] := by rw [Int.toNat_natCast]; exact wcells_get hp
              have hy : (E.pend.map wcell)[(x : Int).toNat]? = some [.int .i64 (q.1 : Int), str q.2] := by rw [Int.toNat_natCast]; exact wcells_get hq
              have hst : p = q → D.pend.take (x + 1) = E.pend.take (x + 1) := fun e => by have h1 := List.getElem?_eq_some_iff.1 hp; have h2 := List.getElem?_eq_some_iff.1 hq; rw [List.take_succ_eq_append_getElem h1.1, List.take_succ_eq_append_getElem h2.1, htk, h1.2, h2.2, e]
              refine J.skip ?_
              refine At.next ?_
              refine J.seq ?_
              refine J.block ?_
              refine J.seq ?_
              refine J.draw [⟨false, 0, 0⟩, ⟨false, 0, 0⟩, ⟨false, 0, 0⟩, ⟨false, 0, 0⟩, ⟨false, 0, 0⟩, ⟨false, 0, 0⟩, ⟨false, 0, 0⟩, ⟨false, 0, 0⟩, ⟨false, 0, 0⟩, ⟨false, 0, 0⟩, ⟨false, 0, 0⟩] [] mixed rfl ?_
              refine DRun.end [] [0, 1, 2, 3, 4, 5, 6, 7, 8, 9, 10] rfl rfl ?_ ?_
              · exact .nil
              refine DNew.rd rfl ((by first | exact Rd.fld0 fld_51_1 (t8 rfl rfl) | exact Rd.fld fld_51_1 (t8 rfl rfl))) ?_
              refine DNew.rd rfl (Rd.ldN Try.isAgg49 (t0 rfl) (by repeat (first | exact .own | exact .rd | apply Blk.there)) (by repeat (first | exact .zero | apply Nth.succ))) ?_
              refine DNew.rd rfl (Rd.move (t7 rfl rfl)) ?_
              refine DNew.rd rfl (Rd.sIdx Try.runUnderlying49 Try.sizeOf65 (t1 rfl rfl) (t0 rfl) (SIn.rowR (a := r2) (by repeat (first | exact .here | apply Take.there))) (by simp) (by omega) (by omega)) ?_
              refine DNew.rd rfl (Rd.sLdA Try.isAgg65 Try.sizeOf65 (t0 rfl) (SIn.rowR (a := r2) (by repeat (first | exact .here | apply Take.there))) hx) ?_
              refine DNew.rd rfl ((by first | exact Rd.fld0 fld_51_1 (t12 rfl rfl) | exact Rd.fld fld_51_1 (t12 rfl rfl))) ?_
              refine DNew.rd rfl (Rd.ldN Try.isAgg49 (t0 rfl) (by repeat (first | exact .own | exact .rd | apply Blk.there)) (by repeat (first | exact .zero | apply Nth.succ))) ?_
              refine DNew.rd rfl (Rd.move (t12 rfl rfl)) ?_
              refine DNew.rd rfl (Rd.sIdx Try.runUnderlying49 Try.sizeOf65 (t1 rfl rfl) (t0 rfl) (SIn.rowR (a := s2) (by repeat (first | exact .here | apply Take.there))) (by simp) (by omega) (by omega)) ?_
              refine DNew.rd rfl (Rd.sLdA Try.isAgg65 Try.sizeOf65 (t0 rfl) (SIn.rowR (a := s2) (by repeat (first | exact .here | apply Take.there))) hy) ?_
              refine DNew.rd rfl (Rd.neqS (t5 rfl rfl) (t0 rfl) eqgW (eqW p q)) ?_
              refine DNew.nil ?_
              refine At.next ?_
              refine J.cond (t0 rfl) ?_ ?_
              · intro hc15
                have hnx : ¬ sameP D E := fun e => by have e3 := e.2.2.1; rw [e3, hq] at hp; cases hp; simp at hc15
                refine J.seq ?_
                refine J.region ?_
                refine JL.rd (Rd.assign Ev.c) ?_
                refine JL.nil ?_
                refine At.next ?_
                refine J.ret ?_
                refine At.blkR ?_
                refine At.nextR ?_
                refine At.loopR ?_
                refine At.blkR ?_
                refine At.nextR ?_
                exact At.ret (()) (trivial) (ResV.one rfl (t0 rfl)) (by first | (rw [sameB_false (by assumption)]; done) | (rw [sameB_true ⟨hn, hdd, heq, hli, hdo⟩]; done) | (rw [sameB_false (fun e => by obtain ⟨e1, e2, e3, e4, e5⟩ := e; simp_all)]; done)) (fun _ => Stars.sel (by repeat (first | exact Sel.nil | apply Sel.cons (by repeat (first | exact .here | apply Take.there)))))
              · intro hc15
                have hpq : p = q := by simpa using hc15
                refine J.skip ?_
                refine At.blkN ?_
                refine At.next ?_
                refine J.region ?_
                refine JL.rd (Rd.move (t16 rfl rfl)) ?_
                refine JL.rd (Rd.add (t0 rfl) Ev.c (w64 (by omega) (by omega))) ?_
                refine JL.rd (Rd.assign (t0 rfl)) ?_
                refine JL.nil ?_
                refine At.again (x + 1) ?_ ?_ ⟨lk0.trans (by first | with_reducible rfl | (congr 1; omega) | (simp; done) | (simp [*]; done)), trivial⟩ ⟨(lk20 rfl), (lk21 rfl), (lk22 rfl), trivial⟩ (fun _ => Stars.sel (by repeat (first | exact Sel.nil | apply Sel.cons (by repeat (first | exact .here | apply Take.there)))))
                · exact ⟨by omega, hst hpq⟩
                · omega
            · intro hc14
              have heq : D.pend = E.pend := by have h1 : x = D.pend.length := (by omega); have h2 : x = E.pend.length := (by omega); have h3 := htk; rw [List.take_of_length_le (by omega), List.take_of_length_le (by omega)] at h3; exact h3
              refine J.exit ?_
              refine At.nextX ?_
              refine At.loopX ?_
              refine At.blkX ?_
              refine At.next ?_
              refine J.seq ?_
              refine J.region ?_
              refine JL.rd (Rd.assign Ev.c) ?_
              refine JL.nil ?_
              refine At.next ?_
              refine J.ret ?_
              exact At.ret (()) (trivial) (ResV.one rfl (t0 rfl)) (by first | (rw [sameB_false (by assumption)]; done) | (rw [sameB_true ⟨hn, hdd, heq, hli, hdo⟩]; done) | (rw [sameB_false (fun e => by obtain ⟨e1, e2, e3, e4, e5⟩ := e; simp_all)]; done)) (fun _ => Stars.sel (by repeat (first | exact Sel.nil | apply Sel.cons (by repeat (first | exact .here | apply Take.there)))))
end Go.Proofs.Ytfnoaohbjlnkgaa
