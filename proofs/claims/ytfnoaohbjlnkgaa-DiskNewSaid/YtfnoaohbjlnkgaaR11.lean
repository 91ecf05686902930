/-
  Walks, printed by mk.py.
-/
import Derived.Test.YtfnoaohbjlnkgaaR10
namespace Go.Proofs.Ytfnoaohbjlnkgaa
attribute [local irreducible] J JL At Rd Ef DNew DCar DRun Then RetQ LoopQ


theorem read_out (d : Nat) (D : Dk) (i : Int) (hd : D.down = false) (hi : i < 0 ∨ (D.n : Int) ≤ i) :
    Fn Try.prog 19 [.pointer (some ⟨d, 0, none⟩), .int .i64 i] [dk d D] (X := Option Addr × Nat) (fun _ => True) (fun x => .tuple #[.slice x.1 0 x.2, .int .i64 8]) (fun _ => [dk d D]) := by
  have e : reachC D i = 8 := by simp [reachC, hd, hi]
  have e2 : readB D i = [] := by simp [readB, e]
  refine (read_any d D i).cv (fun _ s => s) (fun x _ => ?_) fun x h _ st => ?_
  · rw [e, e2]; rfl
  · exact Stars.sel (.cons .here .nil) st
theorem new_bad (n : Int) (h : n < 1 ∨ 8192 < n) : Fn Try.prog 13 [.int .i64 n] [] (X := Nat) (fun _ => True) (fun _ => .tuple #[.pointer none, .int .i64 2]) (fun _ => []) :=
  (new_any n).cv (fun _ s => s) (fun d _ => by unfold newV; exact if_neg (by omega)) fun d h2 _ s => by rw [if_neg (by omega)] at s; exact s

set_option maxRecDepth 100000 in
set_option maxHeartbeats 400000 in
theorem dnew_bad (n i : Int) (hn : n < 1 ∨ 8192 < n) :
    Fn Try.prog 5 [.int .i64 n, .int .i64 i] [] (X := Unit) (fun _ => True) (fun _ => .bool true) (fun _ => []) := by
  refine Fn.mk' (n := 104) (l := [(0, .int .i64 n), (1, .int .i64 i)]) (fn := Try.f5) Try.func5 (by kernel_rfl) rfl rfl (by simp) rfl ?_
  intro h0 w0
  refine J.seq ?_
  refine J.region ?_
  refine JL.ef (Ef.alloc Try.zeroValue4 rfl ?_)
  intro b1
  refine JL.nil ?_
  refine At.next ?_
  refine J.seq ?_
  refine J.region ?_
  refine JL.rd (Rd.move (t1 rfl rfl)) ?_
  refine JL.ef (Ef.call (.cons (t0 rfl) .nil) (new_bad n hn) (by repeat (first | exact Sel.nil | apply Sel.cons (by repeat (first | exact .here | apply Take.there)))) ?_)
  rintro - -
  simp only [List.cons_append, List.nil_append]
  refine JL.rd (Rd.move (t0 rfl)) ?_
  refine JL.rd (Rd.extract (t0 rfl) (by repeat (first | exact .zero | apply Nth.succ))) ?_
  refine JL.rd (Rd.extract (t1 rfl rfl) (by repeat (first | exact .zero | apply Nth.succ))) ?_
  refine JL.rd (Rd.assign (t1 rfl rfl)) ?_
  refine JL.rd (Rd.assign (t1 rfl rfl)) ?_
  refine JL.nil ?_
  refine At.next ?_
  refine J.seq ?_
  refine J.seq ?_
  refine J.region ?_
  refine JL.rd (Rd.move (t8 rfl rfl)) ?_
  refine JL.rd (Rd.lss (t0 rfl) Ev.c) ?_
  refine JL.rd (Rd.move (t0 rfl)) ?_
  refine JL.caseD (t0 rfl) ?_ ?_
  · intro hb2p hb2
    refine JL.skG rfl (EvB (t0 rfl) hb2) rfl ?_
    refine JL.skG rfl (EvB (t1 rfl rfl) hb2) rfl ?_
    refine JL.rd (Rd.pickT (EvB (t2 rfl rfl) hb2) Ev.c) ?_
    refine JL.nil ?_
    refine At.next ?_
    refine J.condT (t0 rfl) ?_
    refine J.seq ?_
    refine J.region ?_
    refine JL.ef (Ef.call .nil (known_any) (by repeat (first | exact Sel.nil | apply Sel.cons (by repeat (first | exact .here | apply Take.there)))) ?_)
    rintro - -
    simp only [List.cons_append, List.nil_append]
    refine JL.rd (Rd.move (t0 rfl)) ?_
    refine JL.rdG rfl (EvB (t0 rfl) rfl) rfl (Rd.move (t9 rfl rfl)) ?_
    refine JL.rdG rfl (EvB (t1 rfl rfl) rfl) rfl (Rd.eqlNil (t0 rfl) Try.runUnderlying23) ?_
    refine JL.rd (Rd.pickT (EvB (t2 rfl rfl) rfl) (t0 rfl)) ?_
    refine JL.rd (Rd.move (t0 rfl)) ?_
    refine JL.rdG rfl (EvB (t0 rfl) rfl) rfl (Rd.move (t12 rfl rfl)) ?_
    refine JL.rdG rfl (EvB (t1 rfl rfl) rfl) rfl (Rd.eql (t0 rfl) Ev.c) ?_
    refine JL.rd (Rd.pickT (EvB (t2 rfl rfl) rfl) (t0 rfl)) ?_
    refine JL.ef0 (Ef.st Try.sizeOf4 (t22 rfl rfl) (t0 rfl) rfl (by repeat (first | exact .here | apply Rep.there)) (by repeat (first | exact .own | exact .rd | apply Blk.there)) (by repeat (first | exact .zero | apply SetN.succ)) (by first | rfl | simp) ?_)
    refine JL.nil ?_
    refine At.next ?_
    refine J.ret ?_
    refine At.nextR ?_
    exact At.ret (()) (trivial) (ResV.cell1 rfl Try.isAgg4 (t22 rfl rfl) (by repeat (first | exact .own | exact .rd | apply Blk.there))) rfl (fun _ => Stars.sel (by repeat (first | exact Sel.nil | apply Sel.cons (by repeat (first | exact .here | apply Take.there)))))
  · intro hb2p hb2
    refine JL.rdG rfl (EvB (t0 rfl) hb2) rfl (Rd.move (t11 rfl rfl)) ?_
    refine JL.rdG rfl (EvB (t1 rfl rfl) hb2) rfl (Rd.gtr (t0 rfl) Ev.c) ?_
    refine JL.rd (Rd.pickF (EvB (t2 rfl rfl) hb2) (t0 rfl)) ?_
    refine JL.nil ?_
    refine At.next ?_
    refine J.condD (t0 rfl) ?_ ?_
    · intro hc3
      refine J.seq ?_
      refine J.region ?_
      refine JL.ef (Ef.call .nil (known_any) (by repeat (first | exact Sel.nil | apply Sel.cons (by repeat (first | exact .here | apply Take.there)))) ?_)
      rintro - -
      simp only [List.cons_append, List.nil_append]
      refine JL.rd (Rd.move (t0 rfl)) ?_
      refine JL.rdG rfl (EvB (t0 rfl) rfl) rfl (Rd.move (t9 rfl rfl)) ?_
      refine JL.rdG rfl (EvB (t1 rfl rfl) rfl) rfl (Rd.eqlNil (t0 rfl) Try.runUnderlying23) ?_
      refine JL.rd (Rd.pickT (EvB (t2 rfl rfl) rfl) (t0 rfl)) ?_
      refine JL.rd (Rd.move (t0 rfl)) ?_
      refine JL.rdG rfl (EvB (t0 rfl) rfl) rfl (Rd.move (t12 rfl rfl)) ?_
      refine JL.rdG rfl (EvB (t1 rfl rfl) rfl) rfl (Rd.eql (t0 rfl) Ev.c) ?_
      refine JL.rd (Rd.pickT (EvB (t2 rfl rfl) rfl) (t0 rfl)) ?_
      refine JL.ef0 (Ef.st Try.sizeOf4 (t22 rfl rfl) (t0 rfl) rfl (by repeat (first | exact .here | apply Rep.there)) (by repeat (first | exact .own | exact .rd | apply Blk.there)) (by repeat (first | exact .zero | apply SetN.succ)) (by first | rfl | simp) ?_)
      refine JL.nil ?_
      refine At.next ?_
      refine J.ret ?_
      refine At.nextR ?_
      exact At.ret (()) (trivial) (ResV.cell1 rfl Try.isAgg4 (t22 rfl rfl) (by repeat (first | exact .own | exact .rd | apply Blk.there))) rfl (fun _ => Stars.sel (by repeat (first | exact Sel.nil | apply Sel.cons (by repeat (first | exact .here | apply Take.there)))))
    · intro hc3
      omega

set_option maxRecDepth 100000 in
set_option maxHeartbeats 400000 in
theorem dnew_in (n i : Int) (h1 : 1 ≤ n) (h2 : n ≤ 8192) (hi : 0 ≤ i) (hi2 : i < n) :
    Fn Try.prog 5 [.int .i64 n, .int .i64 i] [] (X := Unit) (fun _ => True) (fun _ => .bool true) (fun _ => []) := by
  refine Fn.mk' (n := 104) (l := [(0, .int .i64 n), (1, .int .i64 i)]) (fn := Try.f5) Try.func5 (by kernel_rfl) rfl rfl (by simp) rfl ?_
  intro h0 w0
  have hnn : ((n.toNat : Nat) : Int) = n := by omega
  have hii : ((i.toNat : Nat) : Int) = i := by omega
  have hri : reachC (newD n.toNat) (i.toNat : Int) = 0 := by show (if (newD n.toNat).down then 29 else if (i.toNat : Int) < 0 ∨ ((n.toNat : Nat) : Int) ≤ (i.toNat : Int) then 8 else 0) = (0 : Int); rw [if_neg (by simp [newD]), if_neg (by omega)]
  refine J.seq ?_
  refine J.region ?_
  refine JL.ef (Ef.alloc Try.zeroValue4 rfl ?_)
  intro b1
  refine JL.nil ?_
  refine At.next ?_
  refine J.seq ?_
  refine J.region ?_
  refine JL.rd (Rd.move (t1 rfl rfl)) ?_
  refine JL.ef (Ef.call (.cons (t0 rfl) .nil) (new_ok n h1 h2) (by repeat (first | exact Sel.nil | apply Sel.cons (by repeat (first | exact .here | apply Take.there)))) ?_)
  rintro d -
  simp only [List.cons_append, List.nil_append]
  refine JL.rd (Rd.move (t0 rfl)) ?_
  refine JL.rd (Rd.extract (t0 rfl) (by repeat (first | exact .zero | apply Nth.succ))) ?_
  refine JL.rd (Rd.extract (t1 rfl rfl) (by repeat (first | exact .zero | apply Nth.succ))) ?_
  refine JL.rd (Rd.assign (t1 rfl rfl)) ?_
  refine JL.rd (Rd.assign (t1 rfl rfl)) ?_
  refine JL.nil ?_
  refine At.next ?_
  refine J.seq ?_
  refine J.seq ?_
  refine J.region ?_
  refine JL.rd (Rd.move (t8 rfl rfl)) ?_
  refine JL.rd (Rd.lss (t0 rfl) Ev.c) ?_
  refine JL.rd (Rd.move (t0 rfl)) ?_
  refine JL.rdG rfl (EvB (t0 rfl) (decide_eq_false (by omega))) rfl (Rd.move (t11 rfl rfl)) ?_
  refine JL.rdG rfl (EvB (t1 rfl rfl) (decide_eq_false (by omega))) rfl (Rd.gtr (t0 rfl) Ev.c) ?_
  refine JL.rd (Rd.pickF (EvB (t2 rfl rfl) (decide_eq_false (by omega))) (t0 rfl)) ?_
  refine JL.nil ?_
  refine At.next ?_
  refine J.condF (EvB (t0 rfl) (decide_eq_false (by omega))) ?_
  refine J.skip ?_
  refine At.next ?_
  refine J.seq ?_
  refine J.seq ?_
  refine J.region ?_
  refine JL.ef (Ef.call .nil (known_any) (by repeat (first | exact Sel.nil | apply Sel.cons (by repeat (first | exact .here | apply Take.there)))) ?_)
  rintro - -
  simp only [List.cons_append, List.nil_append]
  refine JL.rd (Rd.not (EvB (t0 rfl) rfl)) ?_
  refine JL.rd (Rd.move (t0 rfl)) ?_
  refine JL.rdG rfl (EvB (t0 rfl) rfl) rfl (Rd.move (t9 rfl rfl)) ?_
  refine JL.rdG rfl (EvB (t1 rfl rfl) rfl) rfl (Rd.neq (t0 rfl) Ev.c) ?_
  refine JL.rd (Rd.pickF (EvB (t2 rfl rfl) rfl) (t0 rfl)) ?_
  refine JL.rd (Rd.move (t0 rfl)) ?_
  refine JL.rdG rfl (EvB (t0 rfl) rfl) rfl (Rd.move (t14 rfl rfl)) ?_
  refine JL.rdG rfl (EvB (t1 rfl rfl) rfl) rfl (Rd.eqlNil (t0 rfl) Try.runUnderlying23) ?_
  refine JL.rd (Rd.pickF (EvB (t2 rfl rfl) rfl) (t0 rfl)) ?_
  refine JL.rd (Rd.move (t0 rfl)) ?_
  refine JL.rdG rfl (EvB (t0 rfl) rfl) rfl (Rd.move (t18 rfl rfl)) ?_
  refine JL.efG rfl (EvB (t1 rfl rfl) rfl) rfl (Ef.call (.cons (t0 rfl) .nil) (blocks_any d (newD n.toNat)) (by repeat (first | exact Sel.nil | apply Sel.cons (by repeat (first | exact .here | apply Take.there)))) ?_)
  rintro - -
  simp only [List.cons_append, List.nil_append]
  refine JL.rdG rfl (EvB (t2 rfl rfl) rfl) rfl (Rd.move (t27 rfl rfl)) ?_
  refine JL.rdG rfl (EvB (t3 rfl rfl) rfl) rfl (Rd.neq (t1 rfl rfl) (t0 rfl)) ?_
  refine JL.rd (Rd.pickF (EvB (t4 rfl rfl) rfl) (t0 rfl)) ?_
  refine JL.rd (Rd.move (t0 rfl)) ?_
  refine JL.rdG rfl (EvB (t0 rfl) (decide_eq_false (by show ¬ (((n.toNat : Nat) : Int) ≠ n); omega))) rfl (Rd.move (t24 rfl rfl)) ?_
  refine JL.efG rfl (EvB (t1 rfl rfl) (decide_eq_false (by show ¬ (((n.toNat : Nat) : Int) ≠ n); omega))) rfl (Ef.call (.cons (t0 rfl) .nil) (operations_any d (newD n.toNat)) (by repeat (first | exact Sel.nil | apply Sel.cons (by repeat (first | exact .here | apply Take.there)))) ?_)
  rintro - -
  simp only [List.cons_append, List.nil_append]
  refine JL.rdG rfl (EvB (t2 rfl rfl) (decide_eq_false (by show ¬ (((n.toNat : Nat) : Int) ≠ n); omega))) rfl (Rd.neq (t0 rfl) Ev.c) ?_
  refine JL.rd (Rd.pickF (EvB (t3 rfl rfl) (decide_eq_false (by show ¬ (((n.toNat : Nat) : Int) ≠ n); omega))) (t0 rfl)) ?_
  refine JL.rd (Rd.move (t0 rfl)) ?_
  refine JL.rdG rfl (EvB (t0 rfl) rfl) rfl (Rd.move (t29 rfl rfl)) ?_
  refine JL.efG rfl (EvB (t1 rfl rfl) rfl) rfl (Ef.call (.cons (t0 rfl) .nil) (down_any d (newD n.toNat)) (by repeat (first | exact Sel.nil | apply Sel.cons (by repeat (first | exact .here | apply Take.there)))) ?_)
  rintro - -
  simp only [List.cons_append, List.nil_append]
  refine JL.rd (Rd.pickF (EvB (t2 rfl rfl) rfl) (t0 rfl)) ?_
  refine JL.rd (Rd.move (t0 rfl)) ?_
  refine JL.rdG rfl (EvB (t0 rfl) rfl) rfl (Rd.move (t33 rfl rfl)) ?_
  refine JL.efG rfl (EvB (t1 rfl rfl) rfl) rfl (Ef.call (.cons (t0 rfl) .nil) (pending_any d (newD n.toNat)) (by repeat (first | exact Sel.nil | apply Sel.cons (by repeat (first | exact .here | apply Take.there)))) ?_)
  rintro ⟨pa, pc, px⟩ -
  simp only [List.cons_append, List.nil_append]
  refine JL.rdG rfl (EvB (t2 rfl rfl) rfl) rfl (Rd.len Try.runUnderlying38 (t0 rfl)) ?_
  refine JL.rdG rfl (EvB (t3 rfl rfl) rfl) rfl (Rd.neq (t0 rfl) Ev.c) ?_
  refine JL.live (K := [(58, _), (54, _), (5, _), (4, _), (0, _), (1, _)]) ⟨lk0, (lk4 rfl), (lk37 rfl), (lk43 rfl), (lk44 rfl), (lk45 rfl), trivial⟩ ?_
  intro ρ2
  refine JL.rd (Rd.pickF (EvB (t1 rfl rfl) rfl) (t0 rfl)) ?_
  refine JL.nil ?_
  refine At.next ?_
  refine J.condF (EvB (t0 rfl) rfl) ?_
  refine J.skip ?_
  refine At.next ?_
  refine J.seq ?_
  refine J.region ?_
  refine JL.rd (Rd.move (t3 rfl rfl)) ?_
  refine JL.rd (Rd.move (t7 rfl rfl)) ?_
  rw [← hii]
  refine JL.ef (Ef.call (.cons (t1 rfl rfl) (.cons (t0 rfl) .nil)) (read_ok d (newD n.toNat) i.toNat (by rw [hri])) (by repeat (first | exact Sel.nil | apply Sel.cons (by repeat (first | exact .here | apply Take.there)))) ?_)
  rintro ⟨ra, rc⟩ -
  simp only [List.cons_append, List.nil_append]
  refine JL.rd (Rd.move (t0 rfl)) ?_
  refine JL.rd (Rd.extract (t0 rfl) (by repeat (first | exact .zero | apply Nth.succ))) ?_
  refine JL.rd (Rd.extract (t1 rfl rfl) (by repeat (first | exact .zero | apply Nth.succ))) ?_
  refine JL.rd (Rd.assign (t1 rfl rfl)) ?_
  refine JL.rd (Rd.assign (t1 rfl rfl)) ?_
  refine JL.nil ?_
  refine At.next ?_
  refine J.seq ?_
  refine J.seq ?_
  refine J.region ?_
  refine JL.rd (Rd.move (t11 rfl rfl)) ?_
  refine JL.ef (Ef.call (.cons (t0 rfl) .nil) (used_any (some ⟨d, 0, none⟩)) (by repeat (first | exact Sel.nil | apply Sel.cons (by repeat (first | exact .here | apply Take.there)))) ?_)
  rintro bb -
  simp only [List.cons_append, List.nil_append]
  refine JL.nil ?_
  refine At.next ?_
  refine J.block ?_
  refine J.live (K := [(67, _), (8, _), (7, _), (4, _), (0, _), (1, _)]) ⟨lk0, (lk2 rfl), (lk3 rfl), (lk14 rfl), (lk15 rfl), (lk16 rfl), trivial⟩ ?_
  intro ρ3
  refine J.rangeFuncP (pk := [dk d (newD n.toNat)]) (F := [bytesA ra rc ((newD n.toNat).vis i.toNat), pts b1 (.cells [.bool false].toArray 4)]) (own := [pts bb (.cells [.pointer (some ⟨d, 0, none⟩)].toArray 23)]) (own' := [pts bb (.cells [.pointer (some ⟨d, 0, none⟩)].toArray 23)]) (xs := []) (fun _ => [dk d (newD n.toNat), bytesA ra rc ((newD n.toNat).vis i.toNat), pts b1 (.cells [.bool false].toArray 4)]) (fun _ _ => []) (t0 rfl) ((by have h := used_iter bb d (newD n.toNat); rw [used_new] at h; exact h)) (used1_ent) (by repeat (first | exact Sel.nil | apply Sel.cons (by repeat (first | exact .here | apply Take.there)))) (by simp) (fun _ => Stars.sel (by repeat (first | exact Sel.nil | apply Sel.cons (by repeat (first | exact .here | apply Take.there))))) (fun _ => Iff.rfl) ?_ ?_ ?_
  · intro l r0 fn k x h0 w0 hx
    exact absurd hx (by simp)
  · intro r0
    simp only [List.cons_append, List.nil_append]
    refine At.blkN ?_
    refine At.next ?_
    refine J.seq ?_
    refine J.draw [⟨false, 0, 0⟩, ⟨false, 0, 0⟩, ⟨false, 0, 0⟩, ⟨false, 0, 0⟩, ⟨false, 0, 0⟩, ⟨false, 0, 0⟩, ⟨false, 0, 0⟩, ⟨false, 0, 0⟩, ⟨false, 0, 0⟩, ⟨false, 0, 0⟩, ⟨false, 0, 0⟩, ⟨false, 0, 0⟩, ⟨false, 0, 1⟩, ⟨false, 0, 1⟩, ⟨true, 0, 0⟩, ⟨false, 1, 1⟩, ⟨false, 1, 1⟩, ⟨false, 1, 1⟩, ⟨false, 1, 1⟩, ⟨false, 1, 1⟩, ⟨false, 1, 1⟩, ⟨false, 1, 1⟩, ⟨false, 1, 1⟩, ⟨false, 1, 1⟩, ⟨false, 1, 1⟩, ⟨false, 1, 1⟩, ⟨false, 1, 1⟩, ⟨false, 1, 1⟩, ⟨false, 1, 1⟩, ⟨false, 1, 1⟩, ⟨false, 1, 1⟩, ⟨false, 1, 1⟩, ⟨false, 1, 1⟩, ⟨false, 1, 1⟩, ⟨false, 1, 1⟩, ⟨true, 1, 1⟩] [14, 35] mixed rfl ?_
    refine DRun.at [] [0, 1, 2, 3, 4, 5, 6, 7, 8, 9, 10, 11, 12, 13] rfl rfl ?_ ?_
    · exact .nil
    refine DNew.rd rfl (Rd.move (t5 rfl rfl)) ?_
    refine DNew.rd rfl (Rd.geq (t0 rfl) Ev.c) ?_
    refine DNew.rd rfl (Rd.move (t0 rfl)) ?_
    refine DNew.rdG rfl rfl (EvB (t0 rfl) (decide_eq_true (by omega))) rfl (Rd.move (t8 rfl rfl)) ?_
    refine DNew.rdG rfl rfl (EvB (t1 rfl rfl) (decide_eq_true (by omega))) rfl (Rd.move (t8 rfl rfl)) ?_
    refine DNew.rdG rfl rfl (EvB (t2 rfl rfl) (decide_eq_true (by omega))) rfl (Rd.lss (t1 rfl rfl) (t0 rfl)) ?_
    refine DNew.rd rfl (Rd.pickT (EvB (t3 rfl rfl) (decide_eq_true (by omega))) (t0 rfl)) ?_
    refine DNew.rd rfl (Rd.move (t0 rfl)) ?_
    refine DNew.rdG rfl rfl (EvB (t0 rfl) (decide_eq_true (by omega))) rfl (Rd.move (t9 rfl rfl)) ?_
    refine DNew.rdG rfl rfl (EvB (t1 rfl rfl) (decide_eq_true (by omega))) rfl (Rd.eql (t0 rfl) Ev.c) ?_
    refine DNew.rd rfl (Rd.pickT (EvB (t2 rfl rfl) (decide_eq_true (by omega))) (t0 rfl)) ?_
    refine DNew.rd rfl (Rd.move (t0 rfl)) ?_
    refine DNew.rdG rfl rfl (EvB (t0 rfl) rfl) rfl (Rd.move (t14 rfl rfl)) ?_
    refine DNew.rdG rfl rfl (EvB (t1 rfl rfl) rfl) rfl (Rd.byStr Try.underlying28 Try.underlying5 Try.underlying9 (t0 rfl) (by first | (apply SIn.bytes; (repeat (first | exact .here | apply Take.there)); done) | (apply SIn.rowR; (repeat (first | exact .here | apply Take.there)); done) | (apply hA; (repeat (first | exact .here | apply Take.there)); done)) (by first | (simp; done) | (simp; omega) | omega | (simp [*]; done))) ?_
    refine DNew.nil ?_
    refine DRun.efG rfl rfl (EvB (t2 rfl rfl) rfl) rfl (Ef.call .nil (zero_any) (by repeat (first | exact Sel.nil | apply Sel.cons (by repeat (first | exact .here | apply Take.there)))) ?_)
    rintro - -
    simp only [List.cons_append, List.nil_append]
    refine DRun.at [12, 13] [15, 16, 17, 18, 19, 20, 21, 22, 23, 24, 25, 26, 27, 28, 29, 30, 31, 32, 33, 34] rfl rfl ?_ ?_
    · refine DCar.rdG rfl rfl (EvB (t3 rfl rfl) rfl) rfl (lk2 rfl) (Rd.move (t17 rfl rfl)) ?_
      refine DCar.rdG rfl rfl (EvB (t3 rfl rfl) rfl) rfl (lk1 rfl) (Rd.byStr Try.underlying28 Try.underlying5 Try.underlying9 (t2 rfl rfl) (by first | (apply SIn.bytes; (repeat (first | exact .here | apply Take.there)); done) | (apply SIn.rowR; (repeat (first | exact .here | apply Take.there)); done) | (apply hA; (repeat (first | exact .here | apply Take.there)); done)) (by first | (simp; done) | (simp; omega) | omega | (simp [*]; done))) ?_
      exact .nil
    refine DNew.rdG rfl rfl (EvB (t3 rfl rfl) rfl) rfl (Rd.str_eql (t1 rfl rfl) (t0 rfl)) ?_
    refine DNew.rd rfl (Rd.pickT (EvB (t4 rfl rfl) rfl) (t0 rfl)) ?_
    refine DNew.rd rfl (Rd.move (t0 rfl)) ?_
    refine DNew.skG rfl rfl (EvB (t0 rfl) (decide_eq_true rfl)) rfl ?_
    refine DNew.skG rfl rfl (EvB (t1 rfl rfl) (decide_eq_true rfl)) rfl ?_
    refine DNew.skG rfl rfl (EvB (t2 rfl rfl) (decide_eq_true rfl)) rfl ?_
    refine DNew.skU rfl rfl (t0 rfl) ?_
    refine DNew.skU rfl rfl (t1 rfl rfl) ?_
    refine DNew.skU rfl rfl (t2 rfl rfl) ?_
    refine DNew.skG rfl rfl (EvB (t6 rfl rfl) (decide_eq_true rfl)) rfl ?_
    refine DNew.skG rfl rfl (EvB (t7 rfl rfl) (decide_eq_true rfl)) rfl ?_
    refine DNew.skU rfl rfl (t0 rfl) ?_
    refine DNew.skU rfl rfl (t1 rfl rfl) ?_
    refine DNew.skG rfl rfl (EvB (t10 rfl rfl) (decide_eq_true rfl)) rfl ?_
    refine DNew.skG rfl rfl (EvB (t11 rfl rfl) (decide_eq_true rfl)) rfl ?_
    refine DNew.skU rfl rfl (t0 rfl) ?_
    refine DNew.skU rfl rfl (t1 rfl rfl) ?_
    refine DNew.skU rfl rfl (t2 rfl rfl) ?_
    refine DNew.skG rfl rfl (EvB (t15 rfl rfl) (decide_eq_true rfl)) rfl ?_
    refine DNew.rd rfl (Rd.pickT (EvB (t16 rfl rfl) (decide_eq_true rfl)) Ev.c) ?_
    refine DNew.nil ?_
    refine DRun.ef0 rfl (Ef.st Try.sizeOf4 (t38 rfl rfl) (t0 rfl) rfl (by repeat (first | exact .here | apply Rep.there)) (by repeat (first | exact .own | exact .rd | apply Blk.there)) (by repeat (first | exact .zero | apply SetN.succ)) (by first | rfl | simp) ?_)
    refine DRun.end [] [] rfl rfl ?_ ?_
    · exact .nil
    refine DNew.nil ?_
    refine At.next ?_
    refine J.ret ?_
    exact At.retM (()) (trivial) (by repeat (first | exact .here | apply Take.there)) (ResV.cell1 rfl Try.isAgg4 (t38 rfl rfl) (by repeat (first | exact .own | exact .rd | apply Blk.there))) rfl (fun _ => Stars.sel (by repeat (first | exact Sel.nil | apply Sel.cons (by repeat (first | exact .here | apply Take.there)))))
  · intro r0 k c hk
    exact absurd hk (Nat.not_lt_zero _)

set_option maxRecDepth 100000 in
set_option maxHeartbeats 400000 in
theorem dnew_lo (n i : Int) (h1 : 1 ≤ n) (h2 : n ≤ 8192) (hi : i < 0) :
    Fn Try.prog 5 [.int .i64 n, .int .i64 i] [] (X := Unit) (fun _ => True) (fun _ => .bool true) (fun _ => []) := by
  refine Fn.mk' (n := 104) (l := [(0, .int .i64 n), (1, .int .i64 i)]) (fn := Try.f5) Try.func5 (by kernel_rfl) rfl rfl (by simp) rfl ?_
  intro h0 w0
  have hnn : ((n.toNat : Nat) : Int) = n := by omega
  refine J.seq ?_
  refine J.region ?_
  refine JL.ef (Ef.alloc Try.zeroValue4 rfl ?_)
  intro b1
  refine JL.nil ?_
  refine At.next ?_
  refine J.seq ?_
  refine J.region ?_
  refine JL.rd (Rd.move (t1 rfl rfl)) ?_
  refine JL.ef (Ef.call (.cons (t0 rfl) .nil) (new_ok n h1 h2) (by repeat (first | exact Sel.nil | apply Sel.cons (by repeat (first | exact .here | apply Take.there)))) ?_)
  rintro d -
  simp only [List.cons_append, List.nil_append]
  refine JL.rd (Rd.move (t0 rfl)) ?_
  refine JL.rd (Rd.extract (t0 rfl) (by repeat (first | exact .zero | apply Nth.succ))) ?_
  refine JL.rd (Rd.extract (t1 rfl rfl) (by repeat (first | exact .zero | apply Nth.succ))) ?_
  refine JL.rd (Rd.assign (t1 rfl rfl)) ?_
  refine JL.rd (Rd.assign (t1 rfl rfl)) ?_
  refine JL.nil ?_
  refine At.next ?_
  refine J.seq ?_
  refine J.seq ?_
  refine J.region ?_
  refine JL.rd (Rd.move (t8 rfl rfl)) ?_
  refine JL.rd (Rd.lss (t0 rfl) Ev.c) ?_
  refine JL.rd (Rd.move (t0 rfl)) ?_
  refine JL.rdG rfl (EvB (t0 rfl) (decide_eq_false (by omega))) rfl (Rd.move (t11 rfl rfl)) ?_
  refine JL.rdG rfl (EvB (t1 rfl rfl) (decide_eq_false (by omega))) rfl (Rd.gtr (t0 rfl) Ev.c) ?_
  refine JL.rd (Rd.pickF (EvB (t2 rfl rfl) (decide_eq_false (by omega))) (t0 rfl)) ?_
  refine JL.nil ?_
  refine At.next ?_
  refine J.condF (EvB (t0 rfl) (decide_eq_false (by omega))) ?_
  refine J.skip ?_
  refine At.next ?_
  refine J.seq ?_
  refine J.seq ?_
  refine J.region ?_
  refine JL.ef (Ef.call .nil (known_any) (by repeat (first | exact Sel.nil | apply Sel.cons (by repeat (first | exact .here | apply Take.there)))) ?_)
  rintro - -
  simp only [List.cons_append, List.nil_append]
  refine JL.rd (Rd.not (EvB (t0 rfl) rfl)) ?_
  refine JL.rd (Rd.move (t0 rfl)) ?_
  refine JL.rdG rfl (EvB (t0 rfl) rfl) rfl (Rd.move (t9 rfl rfl)) ?_
  refine JL.rdG rfl (EvB (t1 rfl rfl) rfl) rfl (Rd.neq (t0 rfl) Ev.c) ?_
  refine JL.rd (Rd.pickF (EvB (t2 rfl rfl) rfl) (t0 rfl)) ?_
  refine JL.rd (Rd.move (t0 rfl)) ?_
  refine JL.rdG rfl (EvB (t0 rfl) rfl) rfl (Rd.move (t14 rfl rfl)) ?_
  refine JL.rdG rfl (EvB (t1 rfl rfl) rfl) rfl (Rd.eqlNil (t0 rfl) Try.runUnderlying23) ?_
  refine JL.rd (Rd.pickF (EvB (t2 rfl rfl) rfl) (t0 rfl)) ?_
  refine JL.rd (Rd.move (t0 rfl)) ?_
  refine JL.rdG rfl (EvB (t0 rfl) rfl) rfl (Rd.move (t18 rfl rfl)) ?_
  refine JL.efG rfl (EvB (t1 rfl rfl) rfl) rfl (Ef.call (.cons (t0 rfl) .nil) (blocks_any d (newD n.toNat)) (by repeat (first | exact Sel.nil | apply Sel.cons (by repeat (first | exact .here | apply Take.there)))) ?_)
  rintro - -
  simp only [List.cons_append, List.nil_append]
  refine JL.rdG rfl (EvB (t2 rfl rfl) rfl) rfl (Rd.move (t27 rfl rfl)) ?_
  refine JL.rdG rfl (EvB (t3 rfl rfl) rfl) rfl (Rd.neq (t1 rfl rfl) (t0 rfl)) ?_
  refine JL.rd (Rd.pickF (EvB (t4 rfl rfl) rfl) (t0 rfl)) ?_
  refine JL.rd (Rd.move (t0 rfl)) ?_
  refine JL.rdG rfl (EvB (t0 rfl) (decide_eq_false (by show ¬ (((n.toNat : Nat) : Int) ≠ n); omega))) rfl (Rd.move (t24 rfl rfl)) ?_
  refine JL.efG rfl (EvB (t1 rfl rfl) (decide_eq_false (by show ¬ (((n.toNat : Nat) : Int) ≠ n); omega))) rfl (Ef.call (.cons (t0 rfl) .nil) (operations_any d (newD n.toNat)) (by repeat (first | exact Sel.nil | apply Sel.cons (by repeat (first | exact .here | apply Take.there)))) ?_)
  rintro - -
  simp only [List.cons_append, List.nil_append]
  refine JL.rdG rfl (EvB (t2 rfl rfl) (decide_eq_false (by show ¬ (((n.toNat : Nat) : Int) ≠ n); omega))) rfl (Rd.neq (t0 rfl) Ev.c) ?_
  refine JL.rd (Rd.pickF (EvB (t3 rfl rfl) (decide_eq_false (by show ¬ (((n.toNat : Nat) : Int) ≠ n); omega))) (t0 rfl)) ?_
  refine JL.rd (Rd.move (t0 rfl)) ?_
  refine JL.rdG rfl (EvB (t0 rfl) rfl) rfl (Rd.move (t29 rfl rfl)) ?_
  refine JL.efG rfl (EvB (t1 rfl rfl) rfl) rfl (Ef.call (.cons (t0 rfl) .nil) (down_any d (newD n.toNat)) (by repeat (first | exact Sel.nil | apply Sel.cons (by repeat (first | exact .here | apply Take.there)))) ?_)
  rintro - -
  simp only [List.cons_append, List.nil_append]
  refine JL.rd (Rd.pickF (EvB (t2 rfl rfl) rfl) (t0 rfl)) ?_
  refine JL.rd (Rd.move (t0 rfl)) ?_
  refine JL.rdG rfl (EvB (t0 rfl) rfl) rfl (Rd.move (t33 rfl rfl)) ?_
  refine JL.efG rfl (EvB (t1 rfl rfl) rfl) rfl (Ef.call (.cons (t0 rfl) .nil) (pending_any d (newD n.toNat)) (by repeat (first | exact Sel.nil | apply Sel.cons (by repeat (first | exact .here | apply Take.there)))) ?_)
  rintro ⟨pa, pc, px⟩ -
  simp only [List.cons_append, List.nil_append]
  refine JL.rdG rfl (EvB (t2 rfl rfl) rfl) rfl (Rd.len Try.runUnderlying38 (t0 rfl)) ?_
  refine JL.rdG rfl (EvB (t3 rfl rfl) rfl) rfl (Rd.neq (t0 rfl) Ev.c) ?_
  refine JL.live (K := [(58, _), (54, _), (5, _), (4, _), (0, _), (1, _)]) ⟨lk0, (lk4 rfl), (lk37 rfl), (lk43 rfl), (lk44 rfl), (lk45 rfl), trivial⟩ ?_
  intro ρ2
  refine JL.rd (Rd.pickF (EvB (t1 rfl rfl) rfl) (t0 rfl)) ?_
  refine JL.nil ?_
  refine At.next ?_
  refine J.condF (EvB (t0 rfl) rfl) ?_
  refine J.skip ?_
  refine At.next ?_
  refine J.seq ?_
  refine J.region ?_
  refine JL.rd (Rd.move (t3 rfl rfl)) ?_
  refine JL.rd (Rd.move (t7 rfl rfl)) ?_
  refine JL.ef (Ef.call (.cons (t1 rfl rfl) (.cons (t0 rfl) .nil)) (read_out d (newD n.toNat) i rfl (by show i < 0 ∨ ((n.toNat : Nat) : Int) ≤ i; omega)) (by repeat (first | exact Sel.nil | apply Sel.cons (by repeat (first | exact .here | apply Take.there)))) ?_)
  rintro ⟨ra, rc⟩ -
  simp only [List.cons_append, List.nil_append]
  refine JL.rd (Rd.move (t0 rfl)) ?_
  refine JL.rd (Rd.extract (t0 rfl) (by repeat (first | exact .zero | apply Nth.succ))) ?_
  refine JL.rd (Rd.extract (t1 rfl rfl) (by repeat (first | exact .zero | apply Nth.succ))) ?_
  refine JL.rd (Rd.assign (t1 rfl rfl)) ?_
  refine JL.rd (Rd.assign (t1 rfl rfl)) ?_
  refine JL.nil ?_
  refine At.next ?_
  refine J.seq ?_
  refine J.seq ?_
  refine J.region ?_
  refine JL.rd (Rd.move (t11 rfl rfl)) ?_
  refine JL.ef (Ef.call (.cons (t0 rfl) .nil) (used_any (some ⟨d, 0, none⟩)) (by repeat (first | exact Sel.nil | apply Sel.cons (by repeat (first | exact .here | apply Take.there)))) ?_)
  rintro bb -
  simp only [List.cons_append, List.nil_append]
  refine JL.nil ?_
  refine At.next ?_
  refine J.block ?_
  refine J.live (K := [(67, _), (8, _), (7, _), (4, _), (0, _), (1, _)]) ⟨lk0, (lk2 rfl), (lk3 rfl), (lk14 rfl), (lk15 rfl), (lk16 rfl), trivial⟩ ?_
  intro ρ3
  refine J.rangeFuncP (pk := [dk d (newD n.toNat)]) (F := [pts b1 (.cells [.bool false].toArray 4)]) (own := [pts bb (.cells [.pointer (some ⟨d, 0, none⟩)].toArray 23)]) (own' := [pts bb (.cells [.pointer (some ⟨d, 0, none⟩)].toArray 23)]) (xs := []) (fun _ => [dk d (newD n.toNat), pts b1 (.cells [.bool false].toArray 4)]) (fun _ _ => []) (t0 rfl) ((by have h := used_iter bb d (newD n.toNat); rw [used_new] at h; exact h)) (used1_ent) (by repeat (first | exact Sel.nil | apply Sel.cons (by repeat (first | exact .here | apply Take.there)))) (by simp) (fun _ => Stars.sel (by repeat (first | exact Sel.nil | apply Sel.cons (by repeat (first | exact .here | apply Take.there))))) (fun _ => Iff.rfl) ?_ ?_ ?_
  · intro l r0 fn k x h0 w0 hx
    exact absurd hx (by simp)
  · intro r0
    simp only [List.cons_append, List.nil_append]
    refine At.blkN ?_
    refine At.next ?_
    refine J.seq ?_
    refine J.draw [⟨false, 0, 0⟩, ⟨false, 0, 0⟩, ⟨false, 0, 0⟩, ⟨false, 0, 0⟩, ⟨false, 0, 0⟩, ⟨false, 0, 0⟩, ⟨false, 0, 0⟩, ⟨false, 0, 0⟩, ⟨false, 0, 0⟩, ⟨false, 0, 0⟩, ⟨false, 0, 0⟩, ⟨false, 0, 0⟩, ⟨false, 0, 1⟩, ⟨false, 0, 1⟩, ⟨true, 0, 0⟩, ⟨false, 1, 1⟩, ⟨false, 1, 1⟩, ⟨false, 1, 1⟩, ⟨false, 1, 1⟩, ⟨false, 1, 1⟩, ⟨false, 1, 1⟩, ⟨false, 1, 1⟩, ⟨false, 1, 1⟩, ⟨false, 1, 1⟩, ⟨false, 1, 1⟩, ⟨false, 1, 1⟩, ⟨false, 1, 1⟩, ⟨false, 1, 1⟩, ⟨false, 1, 1⟩, ⟨false, 1, 1⟩, ⟨false, 1, 1⟩, ⟨false, 1, 1⟩, ⟨false, 1, 1⟩, ⟨false, 1, 1⟩, ⟨false, 1, 1⟩, ⟨true, 1, 1⟩] [14, 35] mixed rfl ?_
    refine DRun.at [] [0, 1, 2, 3, 4, 5, 6, 7, 8, 9, 10, 11, 12, 13] rfl rfl ?_ ?_
    · exact .nil
    refine DNew.rd rfl (Rd.move (t5 rfl rfl)) ?_
    refine DNew.rd rfl (Rd.geq (t0 rfl) Ev.c) ?_
    refine DNew.rd rfl (Rd.move (t0 rfl)) ?_
    refine DNew.skG rfl rfl (EvB (t0 rfl) (decide_eq_false (by omega))) rfl ?_
    refine DNew.skG rfl rfl (EvB (t1 rfl rfl) (decide_eq_false (by omega))) rfl ?_
    refine DNew.skG rfl rfl (EvB (t2 rfl rfl) (decide_eq_false (by omega))) rfl ?_
    refine DNew.rd rfl (Rd.pickF (EvB (t3 rfl rfl) (decide_eq_false (by omega))) Ev.c) ?_
    refine DNew.rd rfl (Rd.move (t0 rfl)) ?_
    refine DNew.skG rfl rfl (t0 rfl) rfl ?_
    refine DNew.skG rfl rfl (t1 rfl rfl) rfl ?_
    refine DNew.rd rfl (Rd.pickF (t2 rfl rfl) Ev.c) ?_
    refine DNew.rd rfl (Rd.move (t0 rfl)) ?_
    refine DNew.skG rfl rfl (t0 rfl) rfl ?_
    refine DNew.skG rfl rfl (t1 rfl rfl) rfl ?_
    refine DNew.nil ?_
    refine DRun.skG rfl rfl (t2 rfl rfl) rfl ?_
    refine DRun.at [12, 13] [15, 16, 17, 18, 19, 20, 21, 22, 23, 24, 25, 26, 27, 28, 29, 30, 31, 32, 33, 34] rfl rfl ?_ ?_
    · refine DCar.skG rfl rfl (t3 rfl rfl) rfl (lk2 rfl) ?_
      refine DCar.skG rfl rfl (t3 rfl rfl) rfl (lk1 rfl) ?_
      exact .nil
    refine DNew.skG rfl rfl (t3 rfl rfl) rfl ?_
    refine DNew.rd rfl (Rd.pickF (t4 rfl rfl) Ev.c) ?_
    refine DNew.rd rfl (Rd.move (t0 rfl)) ?_
    refine DNew.rdG rfl rfl (t0 rfl) rfl (Rd.move (t23 rfl rfl)) ?_
    refine DNew.rdG rfl rfl (t1 rfl rfl) rfl (Rd.lss (t0 rfl) Ev.c) ?_
    refine DNew.rdG rfl rfl (t2 rfl rfl) rfl (Rd.move (t0 rfl)) ?_
    refine DNew.skG rfl rfl (EvB (t0 rfl) (decide_eq_true (by omega))) rfl ?_
    refine DNew.skG rfl rfl (EvB (t1 rfl rfl) (decide_eq_true (by omega))) rfl ?_
    refine DNew.skG rfl rfl (EvB (t2 rfl rfl) (decide_eq_true (by omega))) rfl ?_
    refine DNew.rdG rfl rfl (t6 rfl rfl) rfl (Rd.pickT (EvB (t3 rfl rfl) (decide_eq_true (by omega))) Ev.c) ?_
    refine DNew.rdG rfl rfl (t7 rfl rfl) rfl (Rd.move (t0 rfl)) ?_
    refine DNew.rdG rfl rfl (t0 rfl) rfl (Rd.move (t27 rfl rfl)) ?_
    refine DNew.rdG rfl rfl (t1 rfl rfl) rfl (Rd.eql (t0 rfl) Ev.c) ?_
    refine DNew.rdG rfl rfl (t10 rfl rfl) rfl (Rd.pickT (t2 rfl rfl) (t0 rfl)) ?_
    refine DNew.rdG rfl rfl (t11 rfl rfl) rfl (Rd.move (t0 rfl)) ?_
    refine DNew.rdG rfl rfl (EvB (t0 rfl) rfl) rfl (Rd.move (t32 rfl rfl)) ?_
    refine DNew.rdG rfl rfl (EvB (t1 rfl rfl) rfl) rfl (Rd.len Try.runUnderlying28 (t0 rfl)) ?_
    refine DNew.rdG rfl rfl (EvB (t2 rfl rfl) rfl) rfl (Rd.eql (t0 rfl) Ev.c) ?_
    refine DNew.rdG rfl rfl (t15 rfl rfl) rfl (Rd.pickT (EvB (t3 rfl rfl) rfl) (t0 rfl)) ?_
    refine DNew.rd rfl (Rd.pickF (t16 rfl rfl) (t0 rfl)) ?_
    refine DNew.nil ?_
    refine DRun.ef0 rfl (Ef.st Try.sizeOf4 (t38 rfl rfl) (t0 rfl) rfl (by repeat (first | exact .here | apply Rep.there)) (by repeat (first | exact .own | exact .rd | apply Blk.there)) (by repeat (first | exact .zero | apply SetN.succ)) (by first | rfl | simp) ?_)
    refine DRun.end [] [] rfl rfl ?_ ?_
    · exact .nil
    refine DNew.nil ?_
    refine At.next ?_
    refine J.ret ?_
    exact At.retM (()) (trivial) (by repeat (first | exact .here | apply Take.there)) (ResV.cell1 rfl Try.isAgg4 (t38 rfl rfl) (by repeat (first | exact .own | exact .rd | apply Blk.there))) rfl (fun _ => Stars.sel (by repeat (first | exact Sel.nil | apply Sel.cons (by repeat (first | exact .here | apply Take.there)))))
  · intro r0 k c hk
    exact absurd hk (Nat.not_lt_zero _)

set_option maxRecDepth 100000 in
set_option maxHeartbeats 400000 in
theorem dnew_hi (n i : Int) (h1 : 1 ≤ n) (h2 : n ≤ 8192) (hi : 0 ≤ i) (hi2 : n ≤ i) :
    Fn Try.prog 5 [.int .i64 n, .int .i64 i] [] (X := Unit) (fun _ => True) (fun _ => .bool true) (fun _ => []) := by
  refine Fn.mk' (n := 104) (l := [(0, .int .i64 n), (1, .int .i64 i)]) (fn := Try.f5) Try.func5 (by kernel_rfl) rfl rfl (by simp) rfl ?_
  intro h0 w0
  have hnn : ((n.toNat : Nat) : Int) = n := by omega
  refine J.seq ?_
  refine J.region ?_
  refine JL.ef (Ef.alloc Try.zeroValue4 rfl ?_)
  intro b1
  refine JL.nil ?_
  refine At.next ?_
  refine J.seq ?_
  refine J.region ?_
  refine JL.rd (Rd.move (t1 rfl rfl)) ?_
  refine JL.ef (Ef.call (.cons (t0 rfl) .nil) (new_ok n h1 h2) (by repeat (first | exact Sel.nil | apply Sel.cons (by repeat (first | exact .here | apply Take.there)))) ?_)
  rintro d -
  simp only [List.cons_append, List.nil_append]
  refine JL.rd (Rd.move (t0 rfl)) ?_
  refine JL.rd (Rd.extract (t0 rfl) (by repeat (first | exact .zero | apply Nth.succ))) ?_
  refine JL.rd (Rd.extract (t1 rfl rfl) (by repeat (first | exact .zero | apply Nth.succ))) ?_
  refine JL.rd (Rd.assign (t1 rfl rfl)) ?_
  refine JL.rd (Rd.assign (t1 rfl rfl)) ?_
  refine JL.nil ?_
  refine At.next ?_
  refine J.seq ?_
  refine J.seq ?_
  refine J.region ?_
  refine JL.rd (Rd.move (t8 rfl rfl)) ?_
  refine JL.rd (Rd.lss (t0 rfl) Ev.c) ?_
  refine JL.rd (Rd.move (t0 rfl)) ?_
  refine JL.rdG rfl (EvB (t0 rfl) (decide_eq_false (by omega))) rfl (Rd.move (t11 rfl rfl)) ?_
  refine JL.rdG rfl (EvB (t1 rfl rfl) (decide_eq_false (by omega))) rfl (Rd.gtr (t0 rfl) Ev.c) ?_
  refine JL.rd (Rd.pickF (EvB (t2 rfl rfl) (decide_eq_false (by omega))) (t0 rfl)) ?_
  refine JL.nil ?_
  refine At.next ?_
  refine J.condF (EvB (t0 rfl) (decide_eq_false (by omega))) ?_
  refine J.skip ?_
  refine At.next ?_
  refine J.seq ?_
  refine J.seq ?_
  refine J.region ?_
  refine JL.ef (Ef.call .nil (known_any) (by repeat (first | exact Sel.nil | apply Sel.cons (by repeat (first | exact .here | apply Take.there)))) ?_)
  rintro - -
  simp only [List.cons_append, List.nil_append]
  refine JL.rd (Rd.not (EvB (t0 rfl) rfl)) ?_
  refine JL.rd (Rd.move (t0 rfl)) ?_
  refine JL.rdG rfl (EvB (t0 rfl) rfl) rfl (Rd.move (t9 rfl rfl)) ?_
  refine JL.rdG rfl (EvB (t1 rfl rfl) rfl) rfl (Rd.neq (t0 rfl) Ev.c) ?_
  refine JL.rd (Rd.pickF (EvB (t2 rfl rfl) rfl) (t0 rfl)) ?_
  refine JL.rd (Rd.move (t0 rfl)) ?_
  refine JL.rdG rfl (EvB (t0 rfl) rfl) rfl (Rd.move (t14 rfl rfl)) ?_
  refine JL.rdG rfl (EvB (t1 rfl rfl) rfl) rfl (Rd.eqlNil (t0 rfl) Try.runUnderlying23) ?_
  refine JL.rd (Rd.pickF (EvB (t2 rfl rfl) rfl) (t0 rfl)) ?_
  refine JL.rd (Rd.move (t0 rfl)) ?_
  refine JL.rdG rfl (EvB (t0 rfl) rfl) rfl (Rd.move (t18 rfl rfl)) ?_
  refine JL.efG rfl (EvB (t1 rfl rfl) rfl) rfl (Ef.call (.cons (t0 rfl) .nil) (blocks_any d (newD n.toNat)) (by repeat (first | exact Sel.nil | apply Sel.cons (by repeat (first | exact .here | apply Take.there)))) ?_)
  rintro - -
  simp only [List.cons_append, List.nil_append]
  refine JL.rdG rfl (EvB (t2 rfl rfl) rfl) rfl (Rd.move (t27 rfl rfl)) ?_
  refine JL.rdG rfl (EvB (t3 rfl rfl) rfl) rfl (Rd.neq (t1 rfl rfl) (t0 rfl)) ?_
  refine JL.rd (Rd.pickF (EvB (t4 rfl rfl) rfl) (t0 rfl)) ?_
  refine JL.rd (Rd.move (t0 rfl)) ?_
  refine JL.rdG rfl (EvB (t0 rfl) (decide_eq_false (by show ¬ (((n.toNat : Nat) : Int) ≠ n); omega))) rfl (Rd.move (t24 rfl rfl)) ?_
  refine JL.efG rfl (EvB (t1 rfl rfl) (decide_eq_false (by show ¬ (((n.toNat : Nat) : Int) ≠ n); omega))) rfl (Ef.call (.cons (t0 rfl) .nil) (operations_any d (newD n.toNat)) (by repeat (first | exact Sel.nil | apply Sel.cons (by repeat (first | exact .here | apply Take.there)))) ?_)
  rintro - -
  simp only [List.cons_append, List.nil_append]
  refine JL.rdG rfl (EvB (t2 rfl rfl) (decide_eq_false (by show ¬ (((n.toNat : Nat) : Int) ≠ n); omega))) rfl (Rd.neq (t0 rfl) Ev.c) ?_
  refine JL.rd (Rd.pickF (EvB (t3 rfl rfl) (decide_eq_false (by show ¬ (((n.toNat : Nat) : Int) ≠ n); omega))) (t0 rfl)) ?_
  refine JL.rd (Rd.move (t0 rfl)) ?_
  refine JL.rdG rfl (EvB (t0 rfl) rfl) rfl (Rd.move (t29 rfl rfl)) ?_
  refine JL.efG rfl (EvB (t1 rfl rfl) rfl) rfl (Ef.call (.cons (t0 rfl) .nil) (down_any d (newD n.toNat)) (by repeat (first | exact Sel.nil | apply Sel.cons (by repeat (first | exact .here | apply Take.there)))) ?_)
  rintro - -
  simp only [List.cons_append, List.nil_append]
  refine JL.rd (Rd.pickF (EvB (t2 rfl rfl) rfl) (t0 rfl)) ?_
  refine JL.rd (Rd.move (t0 rfl)) ?_
  refine JL.rdG rfl (EvB (t0 rfl) rfl) rfl (Rd.move (t33 rfl rfl)) ?_
  refine JL.efG rfl (EvB (t1 rfl rfl) rfl) rfl (Ef.call (.cons (t0 rfl) .nil) (pending_any d (newD n.toNat)) (by repeat (first | exact Sel.nil | apply Sel.cons (by repeat (first | exact .here | apply Take.there)))) ?_)
  rintro ⟨pa, pc, px⟩ -
  simp only [List.cons_append, List.nil_append]
  refine JL.rdG rfl (EvB (t2 rfl rfl) rfl) rfl (Rd.len Try.runUnderlying38 (t0 rfl)) ?_
  refine JL.rdG rfl (EvB (t3 rfl rfl) rfl) rfl (Rd.neq (t0 rfl) Ev.c) ?_
  refine JL.live (K := [(58, _), (54, _), (5, _), (4, _), (0, _), (1, _)]) ⟨lk0, (lk4 rfl), (lk37 rfl), (lk43 rfl), (lk44 rfl), (lk45 rfl), trivial⟩ ?_
  intro ρ2
  refine JL.rd (Rd.pickF (EvB (t1 rfl rfl) rfl) (t0 rfl)) ?_
  refine JL.nil ?_
  refine At.next ?_
  refine J.condF (EvB (t0 rfl) rfl) ?_
  refine J.skip ?_
  refine At.next ?_
  refine J.seq ?_
  refine J.region ?_
  refine JL.rd (Rd.move (t3 rfl rfl)) ?_
  refine JL.rd (Rd.move (t7 rfl rfl)) ?_
  refine JL.ef (Ef.call (.cons (t1 rfl rfl) (.cons (t0 rfl) .nil)) (read_out d (newD n.toNat) i rfl (by show i < 0 ∨ ((n.toNat : Nat) : Int) ≤ i; omega)) (by repeat (first | exact Sel.nil | apply Sel.cons (by repeat (first | exact .here | apply Take.there)))) ?_)
  rintro ⟨ra, rc⟩ -
  simp only [List.cons_append, List.nil_append]
  refine JL.rd (Rd.move (t0 rfl)) ?_
  refine JL.rd (Rd.extract (t0 rfl) (by repeat (first | exact .zero | apply Nth.succ))) ?_
  refine JL.rd (Rd.extract (t1 rfl rfl) (by repeat (first | exact .zero | apply Nth.succ))) ?_
  refine JL.rd (Rd.assign (t1 rfl rfl)) ?_
  refine JL.rd (Rd.assign (t1 rfl rfl)) ?_
  refine JL.nil ?_
  refine At.next ?_
  refine J.seq ?_
  refine J.seq ?_
  refine J.region ?_
  refine JL.rd (Rd.move (t11 rfl rfl)) ?_
  refine JL.ef (Ef.call (.cons (t0 rfl) .nil) (used_any (some ⟨d, 0, none⟩)) (by repeat (first | exact Sel.nil | apply Sel.cons (by repeat (first | exact .here | apply Take.there)))) ?_)
  rintro bb -
  simp only [List.cons_append, List.nil_append]
  refine JL.nil ?_
  refine At.next ?_
  refine J.block ?_
  refine J.live (K := [(67, _), (8, _), (7, _), (4, _), (0, _), (1, _)]) ⟨lk0, (lk2 rfl), (lk3 rfl), (lk14 rfl), (lk15 rfl), (lk16 rfl), trivial⟩ ?_
  intro ρ3
  refine J.rangeFuncP (pk := [dk d (newD n.toNat)]) (F := [pts b1 (.cells [.bool false].toArray 4)]) (own := [pts bb (.cells [.pointer (some ⟨d, 0, none⟩)].toArray 23)]) (own' := [pts bb (.cells [.pointer (some ⟨d, 0, none⟩)].toArray 23)]) (xs := []) (fun _ => [dk d (newD n.toNat), pts b1 (.cells [.bool false].toArray 4)]) (fun _ _ => []) (t0 rfl) ((by have h := used_iter bb d (newD n.toNat); rw [used_new] at h; exact h)) (used1_ent) (by repeat (first | exact Sel.nil | apply Sel.cons (by repeat (first | exact .here | apply Take.there)))) (by simp) (fun _ => Stars.sel (by repeat (first | exact Sel.nil | apply Sel.cons (by repeat (first | exact .here | apply Take.there))))) (fun _ => Iff.rfl) ?_ ?_ ?_
  · intro l r0 fn k x h0 w0 hx
    exact absurd hx (by simp)
  · intro r0
    simp only [List.cons_append, List.nil_append]
    refine At.blkN ?_
    refine At.next ?_
    refine J.seq ?_
    refine J.draw [⟨false, 0, 0⟩, ⟨false, 0, 0⟩, ⟨false, 0, 0⟩, ⟨false, 0, 0⟩, ⟨false, 0, 0⟩, ⟨false, 0, 0⟩, ⟨false, 0, 0⟩, ⟨false, 0, 0⟩, ⟨false, 0, 0⟩, ⟨false, 0, 0⟩, ⟨false, 0, 0⟩, ⟨false, 0, 0⟩, ⟨false, 0, 1⟩, ⟨false, 0, 1⟩, ⟨true, 0, 0⟩, ⟨false, 1, 1⟩, ⟨false, 1, 1⟩, ⟨false, 1, 1⟩, ⟨false, 1, 1⟩, ⟨false, 1, 1⟩, ⟨false, 1, 1⟩, ⟨false, 1, 1⟩, ⟨false, 1, 1⟩, ⟨false, 1, 1⟩, ⟨false, 1, 1⟩, ⟨false, 1, 1⟩, ⟨false, 1, 1⟩, ⟨false, 1, 1⟩, ⟨false, 1, 1⟩, ⟨false, 1, 1⟩, ⟨false, 1, 1⟩, ⟨false, 1, 1⟩, ⟨false, 1, 1⟩, ⟨false, 1, 1⟩, ⟨false, 1, 1⟩, ⟨true, 1, 1⟩] [14, 35] mixed rfl ?_
    refine DRun.at [] [0, 1, 2, 3, 4, 5, 6, 7, 8, 9, 10, 11, 12, 13] rfl rfl ?_ ?_
    · exact .nil
    refine DNew.rd rfl (Rd.move (t5 rfl rfl)) ?_
    refine DNew.rd rfl (Rd.geq (t0 rfl) Ev.c) ?_
    refine DNew.rd rfl (Rd.move (t0 rfl)) ?_
    refine DNew.rdG rfl rfl (EvB (t0 rfl) (decide_eq_true (by omega))) rfl (Rd.move (t8 rfl rfl)) ?_
    refine DNew.rdG rfl rfl (EvB (t1 rfl rfl) (decide_eq_true (by omega))) rfl (Rd.move (t8 rfl rfl)) ?_
    refine DNew.rdG rfl rfl (EvB (t2 rfl rfl) (decide_eq_true (by omega))) rfl (Rd.lss (t1 rfl rfl) (t0 rfl)) ?_
    refine DNew.rd rfl (Rd.pickT (EvB (t3 rfl rfl) (decide_eq_true (by omega))) (t0 rfl)) ?_
    refine DNew.rd rfl (Rd.move (t0 rfl)) ?_
    refine DNew.skG rfl rfl (EvB (t0 rfl) (decide_eq_false (by omega))) rfl ?_
    refine DNew.skG rfl rfl (EvB (t1 rfl rfl) (decide_eq_false (by omega))) rfl ?_
    refine DNew.rd rfl (Rd.pickF (EvB (t2 rfl rfl) (decide_eq_false (by omega))) Ev.c) ?_
    refine DNew.rd rfl (Rd.move (t0 rfl)) ?_
    refine DNew.skG rfl rfl (t0 rfl) rfl ?_
    refine DNew.skG rfl rfl (t1 rfl rfl) rfl ?_
    refine DNew.nil ?_
    refine DRun.skG rfl rfl (t2 rfl rfl) rfl ?_
    refine DRun.at [12, 13] [15, 16, 17, 18, 19, 20, 21, 22, 23, 24, 25, 26, 27, 28, 29, 30, 31, 32, 33, 34] rfl rfl ?_ ?_
    · refine DCar.skG rfl rfl (t3 rfl rfl) rfl (lk2 rfl) ?_
      refine DCar.skG rfl rfl (t3 rfl rfl) rfl (lk1 rfl) ?_
      exact .nil
    refine DNew.skG rfl rfl (t3 rfl rfl) rfl ?_
    refine DNew.rd rfl (Rd.pickF (t4 rfl rfl) Ev.c) ?_
    refine DNew.rd rfl (Rd.move (t0 rfl)) ?_
    refine DNew.rdG rfl rfl (t0 rfl) rfl (Rd.move (t23 rfl rfl)) ?_
    refine DNew.rdG rfl rfl (t1 rfl rfl) rfl (Rd.lss (t0 rfl) Ev.c) ?_
    refine DNew.rdG rfl rfl (t2 rfl rfl) rfl (Rd.move (t0 rfl)) ?_
    refine DNew.rdG rfl rfl (EvB (t0 rfl) (decide_eq_false (by omega))) rfl (Rd.move (t26 rfl rfl)) ?_
    refine DNew.rdG rfl rfl (EvB (t1 rfl rfl) (decide_eq_false (by omega))) rfl (Rd.move (t26 rfl rfl)) ?_
    refine DNew.rdG rfl rfl (EvB (t2 rfl rfl) (decide_eq_false (by omega))) rfl (Rd.geq (t1 rfl rfl) (t0 rfl)) ?_
    refine DNew.rdG rfl rfl (t6 rfl rfl) rfl (Rd.pickF (EvB (t3 rfl rfl) (decide_eq_false (by omega))) (t0 rfl)) ?_
    refine DNew.rdG rfl rfl (t7 rfl rfl) rfl (Rd.move (t0 rfl)) ?_
    refine DNew.rdG rfl rfl (EvB (t0 rfl) (decide_eq_true (by omega))) rfl (Rd.move (t27 rfl rfl)) ?_
    refine DNew.rdG rfl rfl (EvB (t1 rfl rfl) (decide_eq_true (by omega))) rfl (Rd.eql (t0 rfl) Ev.c) ?_
    refine DNew.rdG rfl rfl (t10 rfl rfl) rfl (Rd.pickT (EvB (t2 rfl rfl) (decide_eq_true (by omega))) (t0 rfl)) ?_
    refine DNew.rdG rfl rfl (t11 rfl rfl) rfl (Rd.move (t0 rfl)) ?_
    refine DNew.rdG rfl rfl (EvB (t0 rfl) rfl) rfl (Rd.move (t32 rfl rfl)) ?_
    refine DNew.rdG rfl rfl (EvB (t1 rfl rfl) rfl) rfl (Rd.len Try.runUnderlying28 (t0 rfl)) ?_
    refine DNew.rdG rfl rfl (EvB (t2 rfl rfl) rfl) rfl (Rd.eql (t0 rfl) Ev.c) ?_
    refine DNew.rdG rfl rfl (t15 rfl rfl) rfl (Rd.pickT (EvB (t3 rfl rfl) rfl) (t0 rfl)) ?_
    refine DNew.rd rfl (Rd.pickF (t16 rfl rfl) (t0 rfl)) ?_
    refine DNew.nil ?_
    refine DRun.ef0 rfl (Ef.st Try.sizeOf4 (t38 rfl rfl) (t0 rfl) rfl (by repeat (first | exact .here | apply Rep.there)) (by repeat (first | exact .own | exact .rd | apply Blk.there)) (by repeat (first | exact .zero | apply SetN.succ)) (by first | rfl | simp) ?_)
    refine DRun.end [] [] rfl rfl ?_ ?_
    · exact .nil
    refine DNew.nil ?_
    refine At.next ?_
    refine J.ret ?_
    exact At.retM (()) (trivial) (by repeat (first | exact .here | apply Take.there)) (ResV.cell1 rfl Try.isAgg4 (t38 rfl rfl) (by repeat (first | exact .own | exact .rd | apply Blk.there))) rfl (fun _ => Stars.sel (by repeat (first | exact Sel.nil | apply Sel.cons (by repeat (first | exact .here | apply Take.there)))))
  · intro r0 k c hk
    exact absurd hk (Nat.not_lt_zero _)

theorem dnew_any (n i : Int) : Fn Try.prog 5 [.int .i64 n, .int .i64 i] [] (X := Unit) (fun _ => True) (fun _ => .bool true) (fun _ => []) := by
  by_cases hn : n < 1 ∨ 8192 < n
  · exact dnew_bad n i hn
  · by_cases h0 : i < 0
    · exact dnew_lo n i (by omega) (by omega) h0
    · by_cases h1 : i < n
      · exact dnew_in n i (by omega) (by omega) (by omega) h1
      · exact dnew_hi n i (by omega) (by omega) (by omega) (by omega)
end Go.Proofs.Ytfnoaohbjlnkgaa
