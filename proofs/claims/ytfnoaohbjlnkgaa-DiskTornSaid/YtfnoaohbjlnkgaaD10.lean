/-
  Walks, printed by mk.py.
-/
import Derived.Test.YtfnoaohbjlnkgaaD9
namespace Go.Proofs.Ytfnoaohbjlnkgaa
attribute [local irreducible] J JL At Rd Ef DNew DCar DRun Then RetQ LoopQ


theorem lit3 (z : Int) : ∀ w, (Instr.buildSlice 34 3 [(0, Value.int .i64 0), (1, Value.int .i64 512), (2, Value.int .i64 z)].toArray).run Try.prog w = .ok (.slice (some ⟨w.heap.size, 0, none⟩) 3 3) (w.alloc (.cells [Value.int .i64 0, .int .i64 512, .int .i64 z].toArray 3)) := fun w => by kernel_rfl
theorem lit3_get (c : UInt8) : [Value.int .i64 0, .int .i64 512, .int .i64 ((c.toNat : Int) / 3 % 17 * 32)][((c.toNat : Int) % 3).toNat]? = some (.int .i64 (fateN c : Int)) := by
  have h3 : c.toNat % 3 = 0 ∨ c.toNat % 3 = 1 ∨ c.toNat % 3 = 2 := by omega
  have e : ((c.toNat : Int) % 3).toNat = c.toNat % 3 := by omega
  rw [e]
  rcases h3 with h | h | h <;> simp [h, fateN]
def td (a b : UInt8) : Dk := (((newD 1).operated.wrote 0 (full a)).operated.flushed).operated.wrote 0 (full b)
theorem td_a (a b c : UInt8) : ((td a b).failed.restarted [c]).vis 0 = (full b).take (fateN c) ++ (full a).drop (fateN c) := rfl
theorem td_w1 (a : UInt8) (d : Nat) (p : Option Addr) (n cap : Nat) (hn : (full a).length = n) (h5 : n = 512) :
    Fn Try.prog 14 [.pointer (some ⟨d, 0, none⟩), .int .i64 0, .slice p n cap] [dk d (newD 1), bytesA p cap (full a)] (X := Unit) (fun _ => True) (fun _ => .int .i64 0) (fun _ => [dk d ((newD 1).operated.wrote 0 (full a)), bytesA p cap (full a)]) :=
  write_ok d (newD 1) 0 p n cap (full a) hn h5 rfl rfl (by decide) (by decide)
theorem td_w2 (a b : UInt8) (d : Nat) (p : Option Addr) (n cap : Nat) (hn : (full b).length = n) (h5 : n = 512) :
    Fn Try.prog 14 [.pointer (some ⟨d, 0, none⟩), .int .i64 0, .slice p n cap] [dk d (((newD 1).operated.wrote 0 (full a)).operated.flushed), bytesA p cap (full b)] (X := Unit) (fun _ => True) (fun _ => .int .i64 0) (fun _ => [dk d (td a b), bytesA p cap (full b)]) :=
  write_ok d (((newD 1).operated.wrote 0 (full a)).operated.flushed) 0 p n cap (full b) hn h5 rfl rfl (show (2 : Nat) < _ by decide) (show (0 : Nat) < _ by decide)

set_option maxRecDepth 100000 in
set_option maxHeartbeats 400000 in
theorem torn_any (a b c : UInt8) :
    Fn Try.prog 3 [.int .u8 (a.toNat : Int), .int .u8 (b.toNat : Int), .int .u8 (c.toNat : Int)] [] (X := Unit) (fun _ => True) (fun _ => .bool true) (fun _ => []) := by
  refine Fn.mk' (n := 79) (l := [(0, .int .u8 (a.toNat : Int)), (1, .int .u8 (b.toNat : Int)), (2, .int .u8 (c.toNat : Int))]) (fn := Try.f3) Try.func3 (by kernel_rfl) rfl rfl (by simp) rfl ?_
  intro h0 w0
  have hc := c.toNat_lt
  have hf := fateN_le c
  refine J.seq ?_
  refine J.region ?_
  refine JL.rd (Rd.assign Ev.c) ?_
  refine JL.nil ?_
  refine At.next ?_
  refine J.seq ?_
  refine J.seq ?_
  refine J.region ?_
  refine JL.ef (Ef.call .nil (known_any) (by repeat (first | exact Sel.nil | apply Sel.cons (by repeat (first | exact .here | apply Take.there)))) ?_)
  rintro - -
  simp only [List.cons_append, List.nil_append]
  refine JL.rd (Rd.not (EvB (t0 rfl) rfl)) ?_
  refine JL.nil ?_
  refine At.next ?_
  refine J.condF (EvB (t0 rfl) rfl) ?_
  refine J.skip ?_
  refine At.next ?_
  refine J.seq ?_
  refine J.region ?_
  refine JL.ef (Ef.call (.cons Ev.c .nil) (new_ok 1 (by decide) (by decide)) (by repeat (first | exact Sel.nil | apply Sel.cons (by repeat (first | exact .here | apply Take.there)))) ?_)
  rintro d -
  simp only [List.cons_append, List.nil_append]
  refine JL.rd (Rd.move (t0 rfl)) ?_
  refine JL.rd (Rd.extract (t0 rfl) (by repeat (first | exact .zero | apply Nth.succ))) ?_
  refine JL.rd (Rd.extract (t1 rfl rfl) (by repeat (first | exact .zero | apply Nth.succ))) ?_
  refine JL.rd (Rd.assign (t1 rfl rfl)) ?_
  refine JL.rd (Rd.assign (t1 rfl rfl)) ?_
  refine JL.nil ?_
  refine At.next ?_
  refine J.seq ?_
  refine J.seq ?_
  refine J.region ?_
  refine JL.rd (Rd.move (t0 rfl)) ?_
  refine JL.rd (Rd.neq (t0 rfl) Ev.c) ?_
  refine JL.rd (Rd.move (t0 rfl)) ?_
  refine JL.rdG rfl (EvB (t0 rfl) rfl) rfl (Rd.move (t4 rfl rfl)) ?_
  refine JL.rdG rfl (EvB (t1 rfl rfl) rfl) rfl (Rd.move (t13 rfl rfl)) ?_
  refine JL.efG rfl (EvB (t2 rfl rfl) rfl) rfl (Ef.call (.cons (t0 rfl) .nil) (fill_ok a) (by repeat (first | exact Sel.nil | apply Sel.cons (by repeat (first | exact .here | apply Take.there)))) ?_)
  rintro - -
  simp only [List.cons_append, List.nil_append]
  refine JL.efG rfl (EvB (t3 rfl rfl) rfl) rfl (Ef.ofStr Try.underlying9 Try.underlying28 Try.underlying5 (t0 rfl) (by first | (simp [maxLen]; done) | (simp [maxLen]; omega) | (simp only [maxLen]; omega)) ?_)
  intro b1 c2
  refine JL.efG rfl (EvB (t4 rfl rfl) rfl) rfl (Ef.call (.cons (t3 rfl rfl) (.cons Ev.c (.cons (t0 rfl) .nil))) (td_w1 a d _ _ _ (by simp) (by simp)) (by repeat (first | exact Sel.nil | apply Sel.cons (by repeat (first | exact .here | apply Take.there)))) ?_)
  rintro - -
  simp only [List.cons_append, List.nil_append]
  refine JL.rdG rfl (EvB (t5 rfl rfl) rfl) rfl (Rd.neq (t0 rfl) Ev.c) ?_
  refine JL.rd (Rd.pickF (EvB (t6 rfl rfl) rfl) (t0 rfl)) ?_
  refine JL.rd (Rd.move (t0 rfl)) ?_
  refine JL.rdG rfl (EvB (t0 rfl) rfl) rfl (Rd.move (t12 rfl rfl)) ?_
  refine JL.efG rfl (EvB (t1 rfl rfl) rfl) rfl (Ef.call (.cons (t0 rfl) .nil) (flush_ok d ((newD 1).operated.wrote 0 (full a)) rfl rfl (show (1 : Nat) < _ by decide)) (by repeat (first | exact Sel.nil | apply Sel.cons (by repeat (first | exact .here | apply Take.there)))) ?_)
  rintro - -
  simp only [List.cons_append, List.nil_append]
  refine JL.rdG rfl (EvB (t2 rfl rfl) rfl) rfl (Rd.neq (t0 rfl) Ev.c) ?_
  refine JL.rd (Rd.pickF (EvB (t3 rfl rfl) rfl) (t0 rfl)) ?_
  refine JL.rd (Rd.move (t0 rfl)) ?_
  refine JL.rdG rfl (EvB (t0 rfl) rfl) rfl (Rd.move (t17 rfl rfl)) ?_
  refine JL.rdG rfl (EvB (t1 rfl rfl) rfl) rfl (Rd.move (t27 rfl rfl)) ?_
  refine JL.efG rfl (EvB (t2 rfl rfl) rfl) rfl (Ef.call (.cons (t0 rfl) .nil) (fill_ok b) (by repeat (first | exact Sel.nil | apply Sel.cons (by repeat (first | exact .here | apply Take.there)))) ?_)
  rintro - -
  simp only [List.cons_append, List.nil_append]
  refine JL.efG rfl (EvB (t3 rfl rfl) rfl) rfl (Ef.ofStr Try.underlying9 Try.underlying28 Try.underlying5 (t0 rfl) (by first | (simp [maxLen]; done) | (simp [maxLen]; omega) | (simp only [maxLen]; omega)) ?_)
  intro b3 c4
  refine JL.efG rfl (EvB (t4 rfl rfl) rfl) rfl (Ef.call (.cons (t3 rfl rfl) (.cons Ev.c (.cons (t0 rfl) .nil))) (td_w2 a b d _ _ _ (by simp) (by simp)) (by repeat (first | exact Sel.nil | apply Sel.cons (by repeat (first | exact .here | apply Take.there)))) ?_)
  rintro - -
  simp only [List.cons_append, List.nil_append]
  refine JL.rdG rfl (EvB (t5 rfl rfl) rfl) rfl (Rd.neq (t0 rfl) Ev.c) ?_
  refine JL.rd (Rd.pickF (EvB (t6 rfl rfl) rfl) (t0 rfl)) ?_
  refine JL.nil ?_
  refine At.next ?_
  refine J.condF (EvB (t0 rfl) rfl) ?_
  refine J.skip ?_
  refine At.next ?_
  refine J.seq ?_
  refine J.live (K := [(7, _), (6, _), (0, _), (1, _), (2, _)]) ⟨(lk24 rfl), (lk31 rfl), (lk32 rfl), (lk33 rfl), (lk34 rfl), trivial⟩ ?_
  intro ρ5
  refine J.region ?_
  refine JL.rd (Rd.move (t0 rfl)) ?_
  refine JL.ef (Ef.call (.cons (t0 rfl) .nil) (fail_any d (td a b)) (by repeat (first | exact Sel.nil | apply Sel.cons (by repeat (first | exact .here | apply Take.there)))) ?_)
  rintro - -
  simp only [List.cons_append, List.nil_append]
  refine JL.nil ?_
  refine At.next ?_
  refine J.seq ?_
  refine J.seq ?_
  refine J.region ?_
  refine JL.rd (Rd.move (t2 rfl rfl)) ?_
  refine JL.rd (Rd.move (t7 rfl rfl)) ?_
  refine JL.ef (Ef.byLit1 (c := c) elt_28 (t0 rfl) ?_)
  intro b6
  refine JL.ef (Ef.call (.cons (t2 rfl rfl) (.cons (t0 rfl) .nil)) (restart_ok d (td a b).failed _ _ _ [c] rfl rfl) (by repeat (first | exact Sel.nil | apply Sel.cons (by repeat (first | exact .here | apply Take.there)))) ?_)
  rintro - -
  simp only [List.cons_append, List.nil_append]
  refine JL.rd (Rd.neq (t0 rfl) Ev.c) ?_
  refine JL.nil ?_
  refine At.next ?_
  refine J.condF (EvB (t0 rfl) rfl) ?_
  refine J.skip ?_
  refine At.next ?_
  refine J.seq ?_
  refine J.region ?_
  refine JL.rd (Rd.move (t7 rfl rfl)) ?_
  refine JL.ef (Ef.call (.cons (t0 rfl) (.cons Ev.c .nil)) (read_ok d ((td a b).failed.restarted [c]) 0 rfl) (by repeat (first | exact Sel.nil | apply Sel.cons (by repeat (first | exact .here | apply Take.there)))) ?_)
  rintro ⟨ra, rc⟩ -
  simp only [List.cons_append, List.nil_append]
  refine JL.rd (Rd.move (t0 rfl)) ?_
  refine JL.rd (Rd.extract (t0 rfl) (by repeat (first | exact .zero | apply Nth.succ))) ?_
  refine JL.rd (Rd.extract (t1 rfl rfl) (by repeat (first | exact .zero | apply Nth.succ))) ?_
  refine JL.rd (Rd.assign (t1 rfl rfl)) ?_
  refine JL.rd (Rd.assign (t1 rfl rfl)) ?_
  refine JL.nil ?_
  refine At.next ?_
  refine J.seq ?_
  refine J.region ?_
  refine JL.rd (Rd.move (t18 rfl rfl)) ?_
  refine JL.rd (Rd.conv (t0 rfl) (fun w => ⟨_, Try.runUnderlying5 w⟩) Try.runUnderlying3 (w64 (by omega) (by omega))) ?_
  refine JL.rd (Rd.quo (t0 rfl) Ev.c (by omega) (by omega) (w64 (by omega) (by omega))) ?_
  refine JL.rd (Rd.rem (t0 rfl) Ev.c (by omega) (by omega)) ?_
  refine JL.rd (Rd.mul (t0 rfl) Ev.c (w64 (by omega) (by omega))) ?_
  refine JL.ef (Ef.slitR (e := 3) (.cons Ev.c (.cons Ev.c (.cons (t0 rfl) .nil))) (lit3 _) ?_)
  intro bl
  refine JL.rd (Rd.move (t24 rfl rfl)) ?_
  refine JL.rd (Rd.rem (t0 rfl) Ev.c (by omega) (by omega)) ?_
  refine JL.rd (Rd.idx0 Try.runUnderlying34 Try.sizeOf3 (t2 rfl rfl) (t0 rfl) (by omega) (by omega)) ?_
  refine JL.rd (Rd.ld Try.isAgg3 (t0 rfl) (by repeat (first | exact .own | exact .rd | apply Blk.there)) (lit3_get c)) ?_
  refine JL.rd (Rd.assign (t0 rfl)) ?_
  refine JL.nil ?_
  refine At.next ?_
  refine J.seq ?_
  refine J.live (K := [(11, _), (10, _), (9, _), (6, _), (0, _), (1, _)]) ⟨lk0, (lk11 rfl), (lk12 rfl), (lk26 rfl), (lk27 rfl), (lk28 rfl), trivial⟩ ?_
  intro ρ7
  refine J.draw [⟨false, 0, 0⟩, ⟨false, 0, 0⟩, ⟨false, 0, 0⟩, ⟨false, 0, 2⟩, ⟨false, 0, 2⟩, ⟨false, 0, 0⟩, ⟨true, 0, 0⟩, ⟨false, 0, 2⟩, ⟨false, 1, 2⟩, ⟨false, 0, 1⟩, ⟨true, 1, 1⟩, ⟨false, 0, 2⟩, ⟨false, 2, 2⟩, ⟨false, 2, 2⟩, ⟨false, 2, 2⟩, ⟨false, 2, 2⟩, ⟨false, 2, 2⟩] [6, 10] mixed rfl ?_
  refine DRun.at [] [0, 1, 2, 3, 4, 5, 7, 9, 11] rfl rfl ?_ ?_
  · exact .nil
  refine DNew.rd rfl (Rd.move (t1 rfl rfl)) ?_
  refine DNew.rd rfl (Rd.eql (t0 rfl) Ev.c) ?_
  refine DNew.rd rfl (Rd.move (t0 rfl)) ?_
  refine DNew.rdG rfl rfl (EvB (t0 rfl) rfl) rfl (Rd.move (t5 rfl rfl)) ?_
  refine DNew.rdG rfl rfl (EvB (t1 rfl rfl) rfl) rfl (Rd.byStr Try.underlying28 Try.underlying5 Try.underlying9 (t0 rfl) (SIn.bytes (by repeat (first | exact .here | apply Take.there))) (by first | (simp; done) | (simp; omega) | omega | (simp [*]; done))) ?_
  refine DNew.rdG rfl rfl (EvB (t2 rfl rfl) rfl) rfl (Rd.move (t10 rfl rfl)) ?_
  refine DNew.rdG rfl rfl (EvB (t3 rfl rfl) rfl) rfl (Rd.move (t6 rfl rfl)) ?_
  refine DNew.rdG rfl rfl (EvB (t4 rfl rfl) rfl) rfl (Rd.move (t11 rfl rfl)) ?_
  refine DNew.rdG rfl rfl (EvB (t5 rfl rfl) rfl) rfl (Rd.move (t8 rfl rfl)) ?_
  refine DNew.nil ?_
  refine DRun.efG rfl rfl (EvB (t6 rfl rfl) rfl) rfl (Ef.call (.cons (t3 rfl rfl) .nil) (fill_ok b) (by repeat (first | exact Sel.nil | apply Sel.cons (by repeat (first | exact .here | apply Take.there)))) ?_)
  rintro - -
  simp only [List.cons_append, List.nil_append]
  refine DRun.at [3, 4, 7, 9, 11] [8] rfl rfl ?_ ?_
  · refine DCar.rdG rfl rfl (EvB (t7 rfl rfl) rfl) rfl (lk6 rfl) (Rd.move (t12 rfl rfl)) ?_
    refine DCar.rdG rfl rfl (EvB (t7 rfl rfl) rfl) rfl (lk5 rfl) (Rd.byStr Try.underlying28 Try.underlying5 Try.underlying9 (t6 rfl rfl) (SIn.bytes (by repeat (first | exact .here | apply Take.there))) (by first | (simp; done) | (simp; omega) | omega | (simp [*]; done))) ?_
    refine DCar.rdG rfl rfl (EvB (t7 rfl rfl) rfl) rfl (lk3 rfl) (Rd.move (t10 rfl rfl)) ?_
    refine DCar.rdG rfl rfl (EvB (t7 rfl rfl) rfl) rfl (lk2 rfl) (Rd.move (t14 rfl rfl)) ?_
    refine DCar.rdG rfl rfl (EvB (t7 rfl rfl) rfl) rfl (lk1 rfl) (Rd.move (t10 rfl rfl)) ?_
    exact .nil
  refine DNew.rdG rfl rfl (EvB (t7 rfl rfl) rfl) rfl (Rd.strTo Try.runUnderlying9 (t0 rfl) (t3 rfl rfl) (by first | (simp; done) | (simp; omega) | omega | (simp [*]; done)) (by first | (simp; done) | (simp; omega) | omega | (simp [*]; done))) ?_
  refine DNew.nil ?_
  refine DRun.efG rfl rfl (EvB (t8 rfl rfl) rfl) rfl (Ef.call (.cons (t3 rfl rfl) .nil) (fill_ok a) (by repeat (first | exact Sel.nil | apply Sel.cons (by repeat (first | exact .here | apply Take.there)))) ?_)
  rintro - -
  simp only [List.cons_append, List.nil_append]
  refine DRun.end [3, 4, 7, 8, 11] [12, 13, 14, 15, 16] rfl rfl ?_ ?_
  · refine DCar.rdG rfl rfl (EvB (t9 rfl rfl) rfl) rfl (lk8 rfl) (Rd.move (t14 rfl rfl)) ?_
    refine DCar.rdG rfl rfl (EvB (t9 rfl rfl) rfl) rfl (lk7 rfl) (Rd.byStr Try.underlying28 Try.underlying5 Try.underlying9 (t8 rfl rfl) (SIn.bytes (by repeat (first | exact .here | apply Take.there))) (by first | (simp; done) | (simp; omega) | omega | (simp [*]; done))) ?_
    refine DCar.rdG rfl rfl (EvB (t9 rfl rfl) rfl) rfl (lk5 rfl) (Rd.move (t12 rfl rfl)) ?_
    refine DCar.rdG rfl rfl (EvB (t9 rfl rfl) rfl) rfl (lk1 rfl) (Rd.strTo Try.runUnderlying9 (t2 rfl rfl) (t5 rfl rfl) (by first | (simp; done) | (simp; omega) | omega | (simp [*]; done)) (by first | (simp; done) | (simp; omega) | omega | (simp [*]; done))) ?_
    refine DCar.rdG rfl rfl (EvB (t9 rfl rfl) rfl) rfl (lk3 rfl) (Rd.move (t12 rfl rfl)) ?_
    exact .nil
  refine DNew.rdG rfl rfl (EvB (t9 rfl rfl) rfl) rfl (Rd.strFrom Try.runUnderlying9 (t0 rfl) (t3 rfl rfl) (by first | (simp; done) | (simp; omega) | omega | (simp [*]; done)) (by first | (simp; done) | (simp; omega) | omega | (simp [*]; done))) ?_
  refine DNew.rdG rfl rfl (EvB (t10 rfl rfl) rfl) rfl (Rd.str_add (t2 rfl rfl) (t0 rfl) (by first | (simp; done) | (simp; omega) | omega | (simp [*]; done))) ?_
  refine DNew.rdG rfl rfl (EvB (t11 rfl rfl) rfl) rfl (Rd.str_eql (t9 rfl rfl) (t0 rfl)) ?_
  refine DNew.rd rfl (Rd.pickT (EvB (t12 rfl rfl) rfl) (t0 rfl)) ?_
  refine DNew.rd rfl (Rd.assign (t0 rfl)) ?_
  refine DNew.nil ?_
  refine At.next ?_
  refine J.ret ?_
  exact At.ret (()) (trivial) (ResV.one rfl (t0 rfl)) (congrArg Value.bool (decide_eq_true (td_a a b c))) (fun _ => Stars.sel (by repeat (first | exact Sel.nil | apply Sel.cons (by repeat (first | exact .here | apply Take.there)))))
end Go.Proofs.Ytfnoaohbjlnkgaa
