/-
  Walks, printed by mk.py.
-/
import Derived.Test.YtfnoaohbjlnkgaaL3
namespace Go.Proofs.Ytfnoaohbjlnkgaa
attribute [local irreducible] J JL At Rd Ef DNew DCar DRun Then RetQ LoopQ


set_option maxRecDepth 100000 in
set_option maxHeartbeats 400000 in
theorem limit_any (n : UInt8) (a : Option Addr) (cap : Nat) (l : List Bool) (hl : l.length ≤ 9223372036854775807) :
    Fn Try.prog 4 [.int .u8 (n.toNat : Int), .slice a l.length cap] [rowR a 1 (l.map fun b => [Value.bool b])] (X := Unit) (fun _ => True) (fun _ => .bool true) (fun _ => []) := by
  refine Fn.mk' (n := 97) (l := [(0, .int .u8 (n.toNat : Int)), (1, .slice a l.length cap)]) (fn := Try.f4) Try.func4 (by kernel_rfl) rfl rfl (by simp) rfl ?_
  intro h0 w0
  have hnl := n.toNat_lt
  refine J.seq ?_
  refine J.region ?_
  refine JL.rd (Rd.assign Ev.c) ?_
  refine JL.nil ?_
  refine At.next ?_
  refine J.seq ?_
  refine J.seq ?_
  refine J.region ?_
  refine JL.ef (Ef.call .nil (known_any) (by repeat (first | exact Sel.nil | apply Sel.cons (by repeat (first | exact .here | apply Take.there)))) ?_)
  rintro - -
  simp only [List.cons_append, List.nil_append]
  refine JL.rd (Rd.not (EvB (t0 rfl) rfl)) ?_
  refine JL.nil ?_
  refine At.next ?_
  refine J.condF (EvB (t0 rfl) rfl) ?_
  refine J.skip ?_
  refine At.next ?_
  refine J.seq ?_
  refine J.region ?_
  refine JL.ef (Ef.call (.cons Ev.c .nil) (new_ok 3 (by decide) (by decide)) (by repeat (first | exact Sel.nil | apply Sel.cons (by repeat (first | exact .here | apply Take.there)))) ?_)
  rintro d -
  simp only [List.cons_append, List.nil_append]
  refine JL.rd (Rd.move (t0 rfl)) ?_
  rw [show ((3 : Int).toNat) = 3 from rfl]
  refine JL.rd (Rd.extract (t0 rfl) (by repeat (first | exact .zero | apply Nth.succ))) ?_
  refine JL.rd (Rd.extract (t1 rfl rfl) (by repeat (first | exact .zero | apply Nth.succ))) ?_
  refine JL.rd (Rd.assign (t1 rfl rfl)) ?_
  refine JL.rd (Rd.assign (t1 rfl rfl)) ?_
  refine JL.nil ?_
  refine At.next ?_
  refine J.seq ?_
  refine J.seq ?_
  refine J.region ?_
  refine JL.rd (Rd.move (t0 rfl)) ?_
  refine JL.rd (Rd.neq (t0 rfl) Ev.c) ?_
  refine JL.nil ?_
  refine At.next ?_
  refine J.condF (EvB (t0 rfl) rfl) ?_
  refine J.skip ?_
  refine At.next ?_
  refine J.seq ?_
  refine J.region ?_
  refine JL.rd (Rd.move (t3 rfl rfl)) ?_
  refine JL.rd (Rd.move (t12 rfl rfl)) ?_
  refine JL.rd (Rd.conv (t0 rfl) (fun w => ⟨_, Try.runUnderlying5 w⟩) Try.runUnderlying3 (w64 (by omega) (by omega))) ?_
  refine JL.ef (Ef.call (.cons (t2 rfl rfl) (.cons (t0 rfl) .nil)) (setlimit_any d (newD 3) (n.toNat : Int) (by omega)) (by repeat (first | exact Sel.nil | apply Sel.cons (by repeat (first | exact .here | apply Take.there)))) ?_)
  rintro - -
  simp only [List.cons_append, List.nil_append]
  refine JL.nil ?_
  refine At.next ?_
  refine J.seq ?_
  refine J.seq ?_
  refine J.region ?_
  refine JL.rd (Rd.assign Ev.c) ?_
  refine JL.nil ?_
  refine At.next ?_
  refine J.block ?_
  refine J.loop (X := Nat × Dk) (fun (x : Nat × Dk) => [(7, .int .i64 (x.1 : Int))]) (K := [(5, _), (4, _), (0, _), (1, _)]) (fun x => [dk d x.2, rowR a 1 (l.map fun b => [Value.bool b])]) (fun x => x.1 ≤ l.length ∧ x.1 ≤ 40 ∧ LimI n.toNat x.1 x.2) (fun x => 40 - x.1) ((0, { newD 3 with lim := max (n.toNat : Int) (-1) })) ?_ ⟨lk0.trans (by first | with_reducible rfl | (congr 1; omega) | (simp; done) | (simp [*]; done)), trivial⟩ ⟨(lk8 rfl), (lk15 rfl), (lk16 rfl), (lk17 rfl), trivial⟩ (fun _ => Stars.sel (by repeat (first | exact Sel.nil | apply Sel.cons (by repeat (first | exact .here | apply Take.there))))) ?_
  · exact ⟨Nat.zero_le _, Nat.zero_le _, LimI.new _ hnl⟩
  rintro ⟨x, D⟩ ρ ⟨hx, hx2, hI⟩
  simp only [List.cons_append, List.nil_append]
  dsimp only at hx hx2 hI ⊢
  have hpl := hI.pl
  have hops := hI.ops
  refine J.seq ?_
  refine J.seq ?_
  refine J.region ?_
  refine JL.rd (Rd.move (t0 rfl)) ?_
  refine JL.rd (Rd.move (t5 rfl rfl)) ?_
  refine JL.rd (Rd.len Try.runUnderlying36 (t0 rfl)) ?_
  refine JL.rd (Rd.lss (t2 rfl rfl) (t0 rfl)) ?_
  refine JL.rd (Rd.move (t0 rfl)) ?_
  refine JL.caseD (t0 rfl) ?_ ?_
  · intro hb1p hb1
    refine JL.rdG rfl (EvB (t0 rfl) hb1) rfl (Rd.move (t5 rfl rfl)) ?_
    refine JL.rdG rfl (EvB (t1 rfl rfl) hb1) rfl (Rd.lss (t0 rfl) Ev.c) ?_
    refine JL.rd (Rd.pickT (EvB (t2 rfl rfl) hb1) (t0 rfl)) ?_
    refine JL.nil ?_
    refine At.next ?_
    refine J.condD (t0 rfl) ?_ ?_
    · intro hc2
      refine J.skip ?_
      refine At.next ?_
      refine J.seq ?_
      refine J.block ?_
      refine J.seq ?_
      obtain ⟨b0, hb0⟩ : ∃ b0, l[x]? = some b0 := ⟨_, List.getElem?_eq_getElem (by omega)⟩
      have hx3 : (l.map fun b => [Value.bool b])[(x : Int).toNat]? = some [.bool b0] := by simp [hb0]
      refine J.region ?_
      refine JL.rd (Rd.move (t9 rfl rfl)) ?_
      refine JL.ef (Ef.call (.cons (t0 rfl) .nil) (pending_any d D) (by repeat (first | exact Sel.nil | apply Sel.cons (by repeat (first | exact .here | apply Take.there)))) ?_)
      rintro ⟨pa, pc, px⟩ hpx
      simp only [List.cons_append, List.nil_append]
      refine JL.rd (Rd.len Try.runUnderlying38 (t0 rfl)) ?_
      refine JL.rd (Rd.assign (t0 rfl)) ?_
      refine JL.nil ?_
      refine At.next ?_
      refine J.seq ?_
      refine J.region ?_
      refine JL.rd (Rd.assign Ev.c) ?_
      refine JL.nil ?_
      refine At.next ?_
      refine J.seq ?_
      refine J.seq ?_
      refine J.region ?_
      refine JL.rd (Rd.move (t17 rfl rfl)) ?_
      refine JL.rd (Rd.move (t14 rfl rfl)) ?_
      refine JL.rd (Rd.sIdx Try.runUnderlying36 Try.sizeOf4 (t1 rfl rfl) (t0 rfl) (SIn.rowR (by repeat (first | exact .here | apply Take.there))) (by simp) (by omega) (by omega)) ?_
      refine JL.rd (Rd.sLd Try.isAgg4 (t0 rfl) (SIn.rowR (by repeat (first | exact .here | apply Take.there))) hx3 rfl) ?_
      refine JL.nil ?_
      refine At.next ?_
      refine J.cond (t0 rfl) ?_ ?_
      · intro hc3
        refine J.region ?_
        refine JL.rd (Rd.move (t18 rfl rfl)) ?_
        refine JL.ef (Ef.call (.cons (t0 rfl) .nil) (flush_any d D (by omega)) (by repeat (first | exact Sel.nil | apply Sel.cons (by repeat (first | exact .here | apply Take.there)))) ?_)
        rintro - -
        simp only [List.cons_append, List.nil_append]
        have hS := hI.flush hnl
        try simp only [full_length]
        generalize flushD D = E at hS ⊢
        generalize flushC D = c at hS ⊢
        have hEo := hS.inv.ops
        refine JL.rd (Rd.assign (t0 rfl)) ?_
        refine JL.nil ?_
        refine At.next ?_
        refine J.seq ?_
        refine J.region ?_
        refine JL.rd (Rd.move (t20 rfl rfl)) ?_
        refine JL.rd (Rd.move (t24 rfl rfl)) ?_
        refine JL.rd (Rd.conv (t0 rfl) (fun w => ⟨_, Try.runUnderlying5 w⟩) Try.runUnderlying3 (w64 (by omega) (by omega))) ?_
        refine JL.rd (Rd.lss (t2 rfl rfl) (t0 rfl)) ?_
        refine JL.rd (Rd.move (t0 rfl)) ?_
        refine JL.caseD (t0 rfl) ?_ ?_
        · intro hb4p hb4
          refine JL.rdG rfl (EvB (t0 rfl) hb4) rfl (Rd.move (t5 rfl rfl)) ?_
          refine JL.rdG rfl (EvB (t1 rfl rfl) hb4) rfl (Rd.neq (t0 rfl) Ev.c) ?_
          refine JL.rdG rfl (EvB (t2 rfl rfl) hb4) rfl (Rd.move (t0 rfl)) ?_
          refine JL.rdG rfl (EvB (t0 rfl) (decide_eq_false (fun h => h (hS.lo (by omega)).1))) rfl (Rd.move (t29 rfl rfl)) ?_
          refine JL.efG rfl (EvB (t1 rfl rfl) (decide_eq_false (fun h => h (hS.lo (by omega)).1))) rfl (Ef.call (.cons (t0 rfl) .nil) (down_any d E) (by repeat (first | exact Sel.nil | apply Sel.cons (by repeat (first | exact .here | apply Take.there)))) ?_)
          rintro - -
          simp only [List.cons_append, List.nil_append]
          refine JL.rdG rfl (EvB (t5 rfl rfl) hb4) rfl (Rd.pickF (EvB (t2 rfl rfl) (decide_eq_false (fun h => h (hS.lo (by omega)).1))) (t0 rfl)) ?_
          refine JL.rdG rfl (EvB (t6 rfl rfl) hb4) rfl (Rd.move (t0 rfl)) ?_
          refine JL.rdG rfl (EvB (t0 rfl) (hS.lo (by omega)).2.1) rfl (Rd.move (t33 rfl rfl)) ?_
          refine JL.efG rfl (EvB (t1 rfl rfl) (hS.lo (by omega)).2.1) rfl (Ef.call (.cons (t0 rfl) .nil) (operations_any d E) (by repeat (first | exact Sel.nil | apply Sel.cons (by repeat (first | exact .here | apply Take.there)))) ?_)
          rintro - -
          simp only [List.cons_append, List.nil_append]
          refine JL.rdG rfl (EvB (t2 rfl rfl) (hS.lo (by omega)).2.1) rfl (Rd.move (t34 rfl rfl)) ?_
          refine JL.rdG rfl (EvB (t3 rfl rfl) (hS.lo (by omega)).2.1) rfl (Rd.add (t0 rfl) Ev.c (w64 (by omega) (by omega))) ?_
          refine JL.rdG rfl (EvB (t4 rfl rfl) (hS.lo (by omega)).2.1) rfl (Rd.neq (t2 rfl rfl) (t0 rfl)) ?_
          refine JL.rdG rfl (EvB (t12 rfl rfl) hb4) rfl (Rd.pickF (EvB (t5 rfl rfl) (hS.lo (by omega)).2.1) (t0 rfl)) ?_
          refine JL.rd (Rd.pickT (EvB (t13 rfl rfl) hb4) (t0 rfl)) ?_
          refine JL.rd (Rd.move (t0 rfl)) ?_
          refine JL.rdG rfl (EvB (t0 rfl) (decide_eq_false (by have h1 := (hS.lo (by omega)).2.2; omega))) rfl (Rd.move (t40 rfl rfl)) ?_
          refine JL.live (K := [(69, _), (68, _), (9, _), (8, _), (7, _), (5, _), (4, _), (0, _), (1, _)]) ⟨lk0, (lk1 rfl), (lk21 rfl), (lk29 rfl), (lk41 rfl), (lk42 rfl), (lk43 rfl), (lk44 rfl), (lk45 rfl), trivial⟩ ?_
          intro ρ5
          refine JL.rdG rfl (EvB (t1 rfl rfl) (decide_eq_false (by have h1 := (hS.lo (by omega)).2.2; omega))) rfl (Rd.move (t7 rfl rfl)) ?_
          refine JL.rdG rfl (EvB (t2 rfl rfl) (decide_eq_false (by have h1 := (hS.lo (by omega)).2.2; omega))) rfl (Rd.conv (t0 rfl) (fun w => ⟨_, Try.runUnderlying5 w⟩) Try.runUnderlying3 (w64 (by omega) (by omega))) ?_
          refine JL.rdG rfl (EvB (t3 rfl rfl) (decide_eq_false (by have h1 := (hS.lo (by omega)).2.2; omega))) rfl (Rd.geq (t2 rfl rfl) (t0 rfl)) ?_
          refine JL.rdG rfl (EvB (t4 rfl rfl) (decide_eq_false (by have h1 := (hS.lo (by omega)).2.2; omega))) rfl (Rd.move (t0 rfl)) ?_
          refine JL.skG rfl (EvB (t0 rfl) (decide_eq_false (by omega))) rfl ?_
          refine JL.skG rfl (EvB (t1 rfl rfl) (decide_eq_false (by omega))) rfl ?_
          refine JL.skG rfl (EvB (t2 rfl rfl) (decide_eq_false (by omega))) rfl ?_
          refine JL.skU rfl (t0 rfl) ?_
          refine JL.skU rfl (t1 rfl rfl) ?_
          refine JL.skU rfl (t2 rfl rfl) ?_
          refine JL.skG rfl (EvB (t6 rfl rfl) (decide_eq_false (by omega))) rfl ?_
          refine JL.skG rfl (EvB (t7 rfl rfl) (decide_eq_false (by omega))) rfl ?_
          refine JL.skU rfl (t0 rfl) ?_
          refine JL.skU rfl (t1 rfl rfl) ?_
          refine JL.skU rfl (t2 rfl rfl) ?_
          refine JL.skU rfl (t3 rfl rfl) ?_
          refine JL.skU rfl (t4 rfl rfl) ?_
          refine JL.skG rfl (EvB (t13 rfl rfl) (decide_eq_false (by omega))) rfl ?_
          refine JL.skG rfl (EvB (t14 rfl rfl) (decide_eq_false (by omega))) rfl ?_
          refine JL.skU rfl (t0 rfl) ?_
          refine JL.skU rfl (t1 rfl rfl) ?_
          refine JL.skU rfl (t2 rfl rfl) ?_
          refine JL.skU rfl (t3 rfl rfl) ?_
          refine JL.skU rfl (t4 rfl rfl) ?_
          refine JL.skG rfl (EvB (t20 rfl rfl) (decide_eq_false (by omega))) rfl ?_
          refine JL.rdG rfl (EvB (t26 rfl rfl) (decide_eq_false (by have h1 := (hS.lo (by omega)).2.2; omega))) rfl (Rd.pickF (EvB (t21 rfl rfl) (decide_eq_false (by omega))) Ev.c) ?_
          refine JL.rd (Rd.pickF (EvB (t27 rfl rfl) (decide_eq_false (by have h1 := (hS.lo (by omega)).2.2; omega))) (t0 rfl)) ?_
          refine JL.nil ?_
          refine At.next ?_
          refine J.condF (t0 rfl) ?_
          refine J.skip ?_
          refine At.blkN ?_
          refine At.next ?_
          refine J.live (K := [(7, _), (5, _), (4, _), (0, _), (1, _)]) ⟨(lk31 rfl), (lk32 rfl), (lk33 rfl), (lk34 rfl), (lk35 rfl), trivial⟩ ?_
          intro ρ6
          refine J.region ?_
          refine JL.rd (Rd.move (t0 rfl)) ?_
          refine JL.rd (Rd.add (t0 rfl) Ev.c (w64 (by omega) (by omega))) ?_
          refine JL.rd (Rd.assign (t0 rfl)) ?_
          refine JL.nil ?_
          refine At.again ((x + 1, E)) ?_ ?_ ⟨lk0.trans (by first | with_reducible rfl | (congr 1; omega) | (simp; done) | (simp [*]; done)), trivial⟩ ⟨(lk4 rfl), (lk5 rfl), (lk6 rfl), (lk7 rfl), trivial⟩ (fun _ => Stars.sel (by repeat (first | exact Sel.nil | apply Sel.cons (by repeat (first | exact .here | apply Take.there)))))
          · exact ⟨by show x + 1 ≤ l.length; omega, by show x + 1 ≤ 40; omega, hS.inv⟩
          · show 40 - (x + 1) < 40 - x; omega
        · intro hb4p hb4
          refine JL.skG rfl (EvB (t0 rfl) hb4) rfl ?_
          refine JL.skG rfl (EvB (t1 rfl rfl) hb4) rfl ?_
          refine JL.skG rfl (EvB (t2 rfl rfl) hb4) rfl ?_
          refine JL.skU rfl (t0 rfl) ?_
          refine JL.skU rfl (t1 rfl rfl) ?_
          refine JL.skG rfl (EvB (t5 rfl rfl) hb4) rfl ?_
          refine JL.skG rfl (EvB (t6 rfl rfl) hb4) rfl ?_
          refine JL.skU rfl (t0 rfl) ?_
          refine JL.skU rfl (t1 rfl rfl) ?_
          refine JL.skU rfl (t2 rfl rfl) ?_
          refine JL.skU rfl (t3 rfl rfl) ?_
          refine JL.skU rfl (t4 rfl rfl) ?_
          refine JL.skG rfl (EvB (t12 rfl rfl) hb4) rfl ?_
          refine JL.rd (Rd.pickF (EvB (t13 rfl rfl) hb4) Ev.c) ?_
          refine JL.rd (Rd.move (t0 rfl)) ?_
          refine JL.rdG rfl (t0 rfl) rfl (Rd.move (t40 rfl rfl)) ?_
          refine JL.live (K := [(69, _), (68, _), (9, _), (8, _), (7, _), (5, _), (4, _), (0, _), (1, _)]) ⟨lk0, (lk1 rfl), (lk21 rfl), (lk29 rfl), (lk41 rfl), (lk42 rfl), (lk43 rfl), (lk44 rfl), (lk45 rfl), trivial⟩ ?_
          intro ρ7
          refine JL.rdG rfl (t1 rfl rfl) rfl (Rd.move (t7 rfl rfl)) ?_
          refine JL.rdG rfl (t2 rfl rfl) rfl (Rd.conv (t0 rfl) (fun w => ⟨_, Try.runUnderlying5 w⟩) Try.runUnderlying3 (w64 (by omega) (by omega))) ?_
          refine JL.rdG rfl (t3 rfl rfl) rfl (Rd.geq (t2 rfl rfl) (t0 rfl)) ?_
          refine JL.rdG rfl (t4 rfl rfl) rfl (Rd.move (t0 rfl)) ?_
          refine JL.rdG rfl (EvB (t0 rfl) (decide_eq_true (by omega))) rfl (Rd.move (t6 rfl rfl)) ?_
          refine JL.rdG rfl (EvB (t1 rfl rfl) (decide_eq_true (by omega))) rfl (Rd.neq (t0 rfl) Ev.c) ?_
          refine JL.rdG rfl (EvB (t2 rfl rfl) (decide_eq_true (by omega))) rfl (Rd.move (t0 rfl)) ?_
          refine JL.rdG rfl (EvB (t0 rfl) (decide_eq_false (fun h => h (hS.hi (by omega)).1))) rfl (Rd.move (t12 rfl rfl)) ?_
          refine JL.efG rfl (EvB (t1 rfl rfl) (decide_eq_false (fun h => h (hS.hi (by omega)).1))) rfl (Ef.call (.cons (t0 rfl) .nil) (down_any d E) (by repeat (first | exact Sel.nil | apply Sel.cons (by repeat (first | exact .here | apply Take.there)))) ?_)
          rintro - -
          simp only [List.cons_append, List.nil_append]
          refine JL.rdG rfl (EvB (t2 rfl rfl) (decide_eq_false (fun h => h (hS.hi (by omega)).1))) rfl (Rd.not (EvB (t0 rfl) (hS.hi (by omega)).2.1)) ?_
          refine JL.rdG rfl (EvB (t6 rfl rfl) (decide_eq_true (by omega))) rfl (Rd.pickF (EvB (t3 rfl rfl) (decide_eq_false (fun h => h (hS.hi (by omega)).1))) (t0 rfl)) ?_
          refine JL.rdG rfl (EvB (t7 rfl rfl) (decide_eq_true (by omega))) rfl (Rd.move (t0 rfl)) ?_
          refine JL.rdG rfl (EvB (t0 rfl) rfl) rfl (Rd.move (t17 rfl rfl)) ?_
          refine JL.efG rfl (EvB (t1 rfl rfl) rfl) rfl (Ef.call (.cons (t0 rfl) .nil) (pending_any d E) (by repeat (first | exact Sel.nil | apply Sel.cons (by repeat (first | exact .here | apply Take.there)))) ?_)
          rintro ⟨pa, pc, px⟩ hpx
          simp only [List.cons_append, List.nil_append]
          refine JL.rdG rfl (EvB (t2 rfl rfl) rfl) rfl (Rd.len Try.runUnderlying38 (t0 rfl)) ?_
          refine JL.rdG rfl (EvB (t3 rfl rfl) rfl) rfl (Rd.move (t18 rfl rfl)) ?_
          refine JL.rdG rfl (EvB (t4 rfl rfl) rfl) rfl (Rd.neq (t1 rfl rfl) (t0 rfl)) ?_
          refine JL.rdG rfl (EvB (t13 rfl rfl) (decide_eq_true (by omega))) rfl (Rd.pickF (EvB (t5 rfl rfl) rfl) (t0 rfl)) ?_
          refine JL.rdG rfl (EvB (t14 rfl rfl) (decide_eq_true (by omega))) rfl (Rd.move (t0 rfl)) ?_
          refine JL.rdG rfl (EvB (t0 rfl) (decide_eq_false (by have h1 := (hS.hi (by omega)).2.2.1; omega))) rfl (Rd.move (t24 rfl rfl)) ?_
          refine JL.efG rfl (EvB (t1 rfl rfl) (decide_eq_false (by have h1 := (hS.hi (by omega)).2.2.1; omega))) rfl (Ef.call (.cons (t0 rfl) .nil) (operations_any d E) (by repeat (first | exact Sel.nil | apply Sel.cons (by repeat (first | exact .here | apply Take.there)))) ?_)
          rintro - -
          simp only [List.cons_append, List.nil_append]
          refine JL.rdG rfl (EvB (t2 rfl rfl) (decide_eq_false (by have h1 := (hS.hi (by omega)).2.2.1; omega))) rfl (Rd.move (t28 rfl rfl)) ?_
          refine JL.rdG rfl (EvB (t3 rfl rfl) (decide_eq_false (by have h1 := (hS.hi (by omega)).2.2.1; omega))) rfl (Rd.conv (t0 rfl) (fun w => ⟨_, Try.runUnderlying5 w⟩) Try.runUnderlying3 (w64 (by omega) (by omega))) ?_
          refine JL.rdG rfl (EvB (t4 rfl rfl) (decide_eq_false (by have h1 := (hS.hi (by omega)).2.2.1; omega))) rfl (Rd.neq (t2 rfl rfl) (t0 rfl)) ?_
          refine JL.rdG rfl (EvB (t20 rfl rfl) (decide_eq_true (by omega))) rfl (Rd.pickF (EvB (t5 rfl rfl) (decide_eq_false (by have h1 := (hS.hi (by omega)).2.2.1; omega))) (t0 rfl)) ?_
          refine JL.rdG rfl (t26 rfl rfl) rfl (Rd.pickT (EvB (t21 rfl rfl) (decide_eq_true (by omega))) (t0 rfl)) ?_
          refine JL.rd (Rd.pickF (t27 rfl rfl) (t0 rfl)) ?_
          refine JL.nil ?_
          refine At.next ?_
          refine J.condF (EvB (t0 rfl) (decide_eq_false (by have h1 := (hS.hi (by omega)).2.2.2; omega))) ?_
          refine J.skip ?_
          refine At.blkN ?_
          refine At.next ?_
          refine J.live (K := [(7, _), (5, _), (4, _), (0, _), (1, _)]) ⟨(lk31 rfl), (lk32 rfl), (lk33 rfl), (lk34 rfl), (lk35 rfl), trivial⟩ ?_
          intro ρ8
          refine J.region ?_
          refine JL.rd (Rd.move (t0 rfl)) ?_
          refine JL.rd (Rd.add (t0 rfl) Ev.c (w64 (by omega) (by omega))) ?_
          refine JL.rd (Rd.assign (t0 rfl)) ?_
          refine JL.nil ?_
          refine At.again ((x + 1, E)) ?_ ?_ ⟨lk0.trans (by first | with_reducible rfl | (congr 1; omega) | (simp; done) | (simp [*]; done)), trivial⟩ ⟨(lk4 rfl), (lk5 rfl), (lk6 rfl), (lk7 rfl), trivial⟩ (fun _ => Stars.sel (by repeat (first | exact Sel.nil | apply Sel.cons (by repeat (first | exact .here | apply Take.there)))))
          · exact ⟨by show x + 1 ≤ l.length; omega, by show x + 1 ≤ 40; omega, hS.inv⟩
          · show 40 - (x + 1) < 40 - x; omega
      · intro hc3
        refine J.region ?_
        refine JL.rd (Rd.move (t18 rfl rfl)) ?_
        refine JL.rd (Rd.move (t18 rfl rfl)) ?_
        refine JL.rd (Rd.rem (t0 rfl) Ev.c (by omega) (by omega)) ?_
        refine JL.rd (Rd.move (t20 rfl rfl)) ?_
        refine JL.rd (Rd.conv8 (t0 rfl) (fun w => ⟨_, Try.runUnderlying3 w⟩) Try.runUnderlying5) ?_
        refine JL.ef (Ef.call (.cons (t0 rfl) .nil) (fill_ok (UInt8.ofNat x)) (by repeat (first | exact Sel.nil | apply Sel.cons (by repeat (first | exact .here | apply Take.there)))) ?_)
        rintro - -
        simp only [List.cons_append, List.nil_append]
        refine JL.ef (Ef.ofStr Try.underlying9 Try.underlying28 Try.underlying5 (t0 rfl) (by first | (simp [maxLen]; done) | (simp [maxLen]; omega) | (simp only [maxLen]; omega)) ?_)
        intro b9 c10
        refine JL.ef (Ef.call (.cons (t6 rfl rfl) (.cons (t4 rfl rfl) (.cons (t0 rfl) .nil))) (write_any d D ((x : Int) % 3) _ _ (full (UInt8.ofNat x)) (by omega) (by omega)) (by repeat (first | exact Sel.nil | apply Sel.cons (by repeat (first | exact .here | apply Take.there)))) ?_)
        rintro - -
        simp only [List.cons_append, List.nil_append]
        have hS := hI.write hnl (full (UInt8.ofNat x)) (full_length _)
        try simp only [full_length]
        generalize writeD D ((x : Int) % 3) (full (UInt8.ofNat x)) = E at hS ⊢
        generalize writeC D ((x : Int) % 3) 512 = c at hS ⊢
        have hEo := hS.inv.ops
        refine JL.rd (Rd.assign (t0 rfl)) ?_
        refine JL.nil ?_
        refine At.next ?_
        refine J.seq ?_
        refine J.live (K := [(9, _), (8, _), (7, _), (5, _), (4, _), (0, _), (1, _)]) ⟨lk0, (lk14 rfl), (lk26 rfl), (lk27 rfl), (lk28 rfl), (lk29 rfl), (lk30 rfl), trivial⟩ ?_
        intro ρ11
        refine J.region ?_
        refine JL.rd (Rd.move (t2 rfl rfl)) ?_
        refine JL.rd (Rd.move (t6 rfl rfl)) ?_
        refine JL.rd (Rd.conv (t0 rfl) (fun w => ⟨_, Try.runUnderlying5 w⟩) Try.runUnderlying3 (w64 (by omega) (by omega))) ?_
        refine JL.rd (Rd.lss (t2 rfl rfl) (t0 rfl)) ?_
        refine JL.rd (Rd.move (t0 rfl)) ?_
        refine JL.caseD (t0 rfl) ?_ ?_
        · intro hb12p hb12
          refine JL.rdG rfl (EvB (t0 rfl) hb12) rfl (Rd.move (t5 rfl rfl)) ?_
          refine JL.rdG rfl (EvB (t1 rfl rfl) hb12) rfl (Rd.neq (t0 rfl) Ev.c) ?_
          refine JL.rdG rfl (EvB (t2 rfl rfl) hb12) rfl (Rd.move (t0 rfl)) ?_
          refine JL.rdG rfl (EvB (t0 rfl) (decide_eq_false (fun h => h (hS.lo (by omega)).1))) rfl (Rd.move (t11 rfl rfl)) ?_
          refine JL.efG rfl (EvB (t1 rfl rfl) (decide_eq_false (fun h => h (hS.lo (by omega)).1))) rfl (Ef.call (.cons (t0 rfl) .nil) (down_any d E) (by repeat (first | exact Sel.nil | apply Sel.cons (by repeat (first | exact .here | apply Take.there)))) ?_)
          rintro - -
          simp only [List.cons_append, List.nil_append]
          refine JL.rdG rfl (EvB (t5 rfl rfl) hb12) rfl (Rd.pickF (EvB (t2 rfl rfl) (decide_eq_false (fun h => h (hS.lo (by omega)).1))) (t0 rfl)) ?_
          refine JL.rdG rfl (EvB (t6 rfl rfl) hb12) rfl (Rd.move (t0 rfl)) ?_
          refine JL.rdG rfl (EvB (t0 rfl) (hS.lo (by omega)).2.1) rfl (Rd.move (t15 rfl rfl)) ?_
          refine JL.efG rfl (EvB (t1 rfl rfl) (hS.lo (by omega)).2.1) rfl (Ef.call (.cons (t0 rfl) .nil) (operations_any d E) (by repeat (first | exact Sel.nil | apply Sel.cons (by repeat (first | exact .here | apply Take.there)))) ?_)
          rintro - -
          simp only [List.cons_append, List.nil_append]
          refine JL.rdG rfl (EvB (t2 rfl rfl) (hS.lo (by omega)).2.1) rfl (Rd.move (t16 rfl rfl)) ?_
          refine JL.rdG rfl (EvB (t3 rfl rfl) (hS.lo (by omega)).2.1) rfl (Rd.add (t0 rfl) Ev.c (w64 (by omega) (by omega))) ?_
          refine JL.rdG rfl (EvB (t4 rfl rfl) (hS.lo (by omega)).2.1) rfl (Rd.neq (t2 rfl rfl) (t0 rfl)) ?_
          refine JL.rdG rfl (EvB (t12 rfl rfl) hb12) rfl (Rd.pickF (EvB (t5 rfl rfl) (hS.lo (by omega)).2.1) (t0 rfl)) ?_
          refine JL.rd (Rd.pickT (EvB (t13 rfl rfl) hb12) (t0 rfl)) ?_
          refine JL.rd (Rd.move (t0 rfl)) ?_
          refine JL.rdG rfl (EvB (t0 rfl) (decide_eq_false (by have h1 := (hS.lo (by omega)).2.2; omega))) rfl (Rd.move (t22 rfl rfl)) ?_
          refine JL.rdG rfl (EvB (t1 rfl rfl) (decide_eq_false (by have h1 := (hS.lo (by omega)).2.2; omega))) rfl (Rd.move (t26 rfl rfl)) ?_
          refine JL.rdG rfl (EvB (t2 rfl rfl) (decide_eq_false (by have h1 := (hS.lo (by omega)).2.2; omega))) rfl (Rd.conv (t0 rfl) (fun w => ⟨_, Try.runUnderlying5 w⟩) Try.runUnderlying3 (w64 (by omega) (by omega))) ?_
          refine JL.rdG rfl (EvB (t3 rfl rfl) (decide_eq_false (by have h1 := (hS.lo (by omega)).2.2; omega))) rfl (Rd.geq (t2 rfl rfl) (t0 rfl)) ?_
          refine JL.rdG rfl (EvB (t4 rfl rfl) (decide_eq_false (by have h1 := (hS.lo (by omega)).2.2; omega))) rfl (Rd.move (t0 rfl)) ?_
          refine JL.skG rfl (EvB (t0 rfl) (decide_eq_false (by omega))) rfl ?_
          refine JL.skG rfl (EvB (t1 rfl rfl) (decide_eq_false (by omega))) rfl ?_
          refine JL.skG rfl (EvB (t2 rfl rfl) (decide_eq_false (by omega))) rfl ?_
          refine JL.skU rfl (t0 rfl) ?_
          refine JL.skU rfl (t1 rfl rfl) ?_
          refine JL.skU rfl (t2 rfl rfl) ?_
          refine JL.skG rfl (EvB (t6 rfl rfl) (decide_eq_false (by omega))) rfl ?_
          refine JL.skG rfl (EvB (t7 rfl rfl) (decide_eq_false (by omega))) rfl ?_
          refine JL.skU rfl (t0 rfl) ?_
          refine JL.skU rfl (t1 rfl rfl) ?_
          refine JL.skU rfl (t2 rfl rfl) ?_
          refine JL.skU rfl (t3 rfl rfl) ?_
          refine JL.skU rfl (t4 rfl rfl) ?_
          refine JL.skG rfl (EvB (t13 rfl rfl) (decide_eq_false (by omega))) rfl ?_
          refine JL.live (K := [(87, _), (73, _), (68, _), (7, _), (5, _), (4, _), (0, _), (1, _)]) ⟨lk0, (lk14 rfl), (lk19 rfl), (lk41 rfl), (lk42 rfl), (lk43 rfl), (lk44 rfl), (lk45 rfl), trivial⟩ ?_
          intro ρ13
          refine JL.skG rfl (EvB (t1 rfl rfl) (decide_eq_false (by omega))) rfl ?_
          refine JL.skU rfl (t0 rfl) ?_
          refine JL.skU rfl (t1 rfl rfl) ?_
          refine JL.skU rfl (t2 rfl rfl) ?_
          refine JL.skU rfl (t3 rfl rfl) ?_
          refine JL.skU rfl (t4 rfl rfl) ?_
          refine JL.skG rfl (EvB (t7 rfl rfl) (decide_eq_false (by omega))) rfl ?_
          refine JL.rdG rfl (EvB (t9 rfl rfl) (decide_eq_false (by have h1 := (hS.lo (by omega)).2.2; omega))) rfl (Rd.pickF (EvB (t8 rfl rfl) (decide_eq_false (by omega))) Ev.c) ?_
          refine JL.rd (Rd.pickF (EvB (t10 rfl rfl) (decide_eq_false (by have h1 := (hS.lo (by omega)).2.2; omega))) (t0 rfl)) ?_
          refine JL.nil ?_
          refine At.next ?_
          refine J.condF (t0 rfl) ?_
          refine J.skip ?_
          refine At.blkN ?_
          refine At.next ?_
          refine J.region ?_
          refine JL.rd (Rd.move (t12 rfl rfl)) ?_
          refine JL.rd (Rd.add (t0 rfl) Ev.c (w64 (by omega) (by omega))) ?_
          refine JL.rd (Rd.assign (t0 rfl)) ?_
          refine JL.nil ?_
          refine At.again ((x + 1, E)) ?_ ?_ ⟨lk0.trans (by first | with_reducible rfl | (congr 1; omega) | (simp; done) | (simp [*]; done)), trivial⟩ ⟨(lk16 rfl), (lk17 rfl), (lk18 rfl), (lk19 rfl), trivial⟩ (fun _ => Stars.sel (by repeat (first | exact Sel.nil | apply Sel.cons (by repeat (first | exact .here | apply Take.there)))))
          · exact ⟨by show x + 1 ≤ l.length; omega, by show x + 1 ≤ 40; omega, hS.inv⟩
          · show 40 - (x + 1) < 40 - x; omega
        · intro hb12p hb12
          refine JL.skG rfl (EvB (t0 rfl) hb12) rfl ?_
          refine JL.skG rfl (EvB (t1 rfl rfl) hb12) rfl ?_
          refine JL.skG rfl (EvB (t2 rfl rfl) hb12) rfl ?_
          refine JL.skU rfl (t0 rfl) ?_
          refine JL.skU rfl (t1 rfl rfl) ?_
          refine JL.skG rfl (EvB (t5 rfl rfl) hb12) rfl ?_
          refine JL.skG rfl (EvB (t6 rfl rfl) hb12) rfl ?_
          refine JL.skU rfl (t0 rfl) ?_
          refine JL.skU rfl (t1 rfl rfl) ?_
          refine JL.skU rfl (t2 rfl rfl) ?_
          refine JL.skU rfl (t3 rfl rfl) ?_
          refine JL.skU rfl (t4 rfl rfl) ?_
          refine JL.skG rfl (EvB (t12 rfl rfl) hb12) rfl ?_
          refine JL.rd (Rd.pickF (EvB (t13 rfl rfl) hb12) Ev.c) ?_
          refine JL.rd (Rd.move (t0 rfl)) ?_
          refine JL.rdG rfl (t0 rfl) rfl (Rd.move (t22 rfl rfl)) ?_
          refine JL.rdG rfl (t1 rfl rfl) rfl (Rd.move (t26 rfl rfl)) ?_
          refine JL.rdG rfl (t2 rfl rfl) rfl (Rd.conv (t0 rfl) (fun w => ⟨_, Try.runUnderlying5 w⟩) Try.runUnderlying3 (w64 (by omega) (by omega))) ?_
          refine JL.rdG rfl (t3 rfl rfl) rfl (Rd.geq (t2 rfl rfl) (t0 rfl)) ?_
          refine JL.rdG rfl (t4 rfl rfl) rfl (Rd.move (t0 rfl)) ?_
          refine JL.rdG rfl (EvB (t0 rfl) (decide_eq_true (by omega))) rfl (Rd.move (t25 rfl rfl)) ?_
          refine JL.rdG rfl (EvB (t1 rfl rfl) (decide_eq_true (by omega))) rfl (Rd.neq (t0 rfl) Ev.c) ?_
          refine JL.rdG rfl (EvB (t2 rfl rfl) (decide_eq_true (by omega))) rfl (Rd.move (t0 rfl)) ?_
          refine JL.rdG rfl (EvB (t0 rfl) (decide_eq_false (fun h => h (hS.hi (by omega)).1))) rfl (Rd.move (t31 rfl rfl)) ?_
          refine JL.efG rfl (EvB (t1 rfl rfl) (decide_eq_false (fun h => h (hS.hi (by omega)).1))) rfl (Ef.call (.cons (t0 rfl) .nil) (down_any d E) (by repeat (first | exact Sel.nil | apply Sel.cons (by repeat (first | exact .here | apply Take.there)))) ?_)
          rintro - -
          simp only [List.cons_append, List.nil_append]
          refine JL.rdG rfl (EvB (t2 rfl rfl) (decide_eq_false (fun h => h (hS.hi (by omega)).1))) rfl (Rd.not (EvB (t0 rfl) (hS.hi (by omega)).2.1)) ?_
          refine JL.rdG rfl (EvB (t6 rfl rfl) (decide_eq_true (by omega))) rfl (Rd.pickF (EvB (t3 rfl rfl) (decide_eq_false (fun h => h (hS.hi (by omega)).1))) (t0 rfl)) ?_
          refine JL.rdG rfl (EvB (t7 rfl rfl) (decide_eq_true (by omega))) rfl (Rd.move (t0 rfl)) ?_
          refine JL.rdG rfl (EvB (t0 rfl) rfl) rfl (Rd.move (t36 rfl rfl)) ?_
          refine JL.efG rfl (EvB (t1 rfl rfl) rfl) rfl (Ef.call (.cons (t0 rfl) .nil) (pending_any d E) (by repeat (first | exact Sel.nil | apply Sel.cons (by repeat (first | exact .here | apply Take.there)))) ?_)
          rintro ⟨pa, pc, px⟩ hpx
          simp only [List.cons_append, List.nil_append]
          refine JL.rdG rfl (EvB (t2 rfl rfl) rfl) rfl (Rd.len Try.runUnderlying38 (t0 rfl)) ?_
          refine JL.rdG rfl (EvB (t3 rfl rfl) rfl) rfl (Rd.move (t37 rfl rfl)) ?_
          refine JL.rdG rfl (EvB (t4 rfl rfl) rfl) rfl (Rd.neq (t1 rfl rfl) (t0 rfl)) ?_
          refine JL.rdG rfl (EvB (t13 rfl rfl) (decide_eq_true (by omega))) rfl (Rd.pickF (EvB (t5 rfl rfl) rfl) (t0 rfl)) ?_
          refine JL.live (K := [(87, _), (73, _), (68, _), (7, _), (5, _), (4, _), (0, _), (1, _)]) ⟨lk0, (lk14 rfl), (lk19 rfl), (lk41 rfl), (lk42 rfl), (lk43 rfl), (lk44 rfl), (lk45 rfl), trivial⟩ ?_
          intro ρ14
          refine JL.rdG rfl (EvB (t1 rfl rfl) (decide_eq_true (by omega))) rfl (Rd.move (t0 rfl)) ?_
          refine JL.rdG rfl (EvB (t0 rfl) (decide_eq_false (by have h1 := (hS.hi (by omega)).2.2.1; omega))) rfl (Rd.move (t5 rfl rfl)) ?_
          refine JL.efG rfl (EvB (t1 rfl rfl) (decide_eq_false (by have h1 := (hS.hi (by omega)).2.2.1; omega))) rfl (Ef.call (.cons (t0 rfl) .nil) (operations_any d E) (by repeat (first | exact Sel.nil | apply Sel.cons (by repeat (first | exact .here | apply Take.there)))) ?_)
          rintro - -
          simp only [List.cons_append, List.nil_append]
          refine JL.rdG rfl (EvB (t2 rfl rfl) (decide_eq_false (by have h1 := (hS.hi (by omega)).2.2.1; omega))) rfl (Rd.move (t9 rfl rfl)) ?_
          refine JL.rdG rfl (EvB (t3 rfl rfl) (decide_eq_false (by have h1 := (hS.hi (by omega)).2.2.1; omega))) rfl (Rd.conv (t0 rfl) (fun w => ⟨_, Try.runUnderlying5 w⟩) Try.runUnderlying3 (w64 (by omega) (by omega))) ?_
          refine JL.rdG rfl (EvB (t4 rfl rfl) (decide_eq_false (by have h1 := (hS.hi (by omega)).2.2.1; omega))) rfl (Rd.neq (t2 rfl rfl) (t0 rfl)) ?_
          refine JL.rdG rfl (EvB (t7 rfl rfl) (decide_eq_true (by omega))) rfl (Rd.pickF (EvB (t5 rfl rfl) (decide_eq_false (by have h1 := (hS.hi (by omega)).2.2.1; omega))) (t0 rfl)) ?_
          refine JL.rdG rfl (t9 rfl rfl) rfl (Rd.pickT (EvB (t8 rfl rfl) (decide_eq_true (by omega))) (t0 rfl)) ?_
          refine JL.rd (Rd.pickF (t10 rfl rfl) (t0 rfl)) ?_
          refine JL.nil ?_
          refine At.next ?_
          refine J.condF (EvB (t0 rfl) (decide_eq_false (by have h1 := (hS.hi (by omega)).2.2.2; omega))) ?_
          refine J.skip ?_
          refine At.blkN ?_
          refine At.next ?_
          refine J.region ?_
          refine JL.rd (Rd.move (t12 rfl rfl)) ?_
          refine JL.rd (Rd.add (t0 rfl) Ev.c (w64 (by omega) (by omega))) ?_
          refine JL.rd (Rd.assign (t0 rfl)) ?_
          refine JL.nil ?_
          refine At.again ((x + 1, E)) ?_ ?_ ⟨lk0.trans (by first | with_reducible rfl | (congr 1; omega) | (simp; done) | (simp [*]; done)), trivial⟩ ⟨(lk16 rfl), (lk17 rfl), (lk18 rfl), (lk19 rfl), trivial⟩ (fun _ => Stars.sel (by repeat (first | exact Sel.nil | apply Sel.cons (by repeat (first | exact .here | apply Take.there)))))
          · exact ⟨by show x + 1 ≤ l.length; omega, by show x + 1 ≤ 40; omega, hS.inv⟩
          · show 40 - (x + 1) < 40 - x; omega
    · intro hc2
      refine J.exit ?_
      refine At.nextX ?_
      refine At.loopX ?_
      refine At.blkX ?_
      refine At.next ?_
      refine J.seq ?_
      refine J.region ?_
      refine JL.rd (Rd.assign Ev.c) ?_
      refine JL.nil ?_
      refine At.next ?_
      refine J.ret ?_
      exact At.ret (()) (trivial) (ResV.one rfl (t0 rfl)) rfl (fun _ => Stars.sel (by repeat (first | exact Sel.nil | apply Sel.cons (by repeat (first | exact .here | apply Take.there)))))
  · intro hb1p hb1
    refine JL.skG rfl (EvB (t0 rfl) hb1) rfl ?_
    refine JL.skG rfl (EvB (t1 rfl rfl) hb1) rfl ?_
    refine JL.rd (Rd.pickF (EvB (t2 rfl rfl) hb1) Ev.c) ?_
    refine JL.nil ?_
    refine At.next ?_
    refine J.condF (t0 rfl) ?_
    refine J.exit ?_
    refine At.nextX ?_
    refine At.loopX ?_
    refine At.blkX ?_
    refine At.next ?_
    refine J.seq ?_
    refine J.region ?_
    refine JL.rd (Rd.assign Ev.c) ?_
    refine JL.nil ?_
    refine At.next ?_
    refine J.ret ?_
    exact At.ret (()) (trivial) (ResV.one rfl (t0 rfl)) rfl (fun _ => Stars.sel (by repeat (first | exact Sel.nil | apply Sel.cons (by repeat (first | exact .here | apply Take.there)))))
end Go.Proofs.Ytfnoaohbjlnkgaa
