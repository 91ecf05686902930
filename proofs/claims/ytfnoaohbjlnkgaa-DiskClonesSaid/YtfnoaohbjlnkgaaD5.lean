/-
  Walks, printed by mk.py.
-/
import Derived.Test.YtfnoaohbjlnkgaaD0
namespace Go.Proofs.Ytfnoaohbjlnkgaa
attribute [local irreducible] J JL At Rd Ef DNew DCar DRun Then RetQ LoopQ


set_option maxRecDepth 100000 in
set_option maxHeartbeats 400000 in
theorem fill_any (c : UInt8) :
    Fn Try.prog 15 [.int .u8 (c.toNat : Int)] [] (X := Unit) (fun _ => True) (fun _ => str (List.replicate 512 c)) (fun _ => []) := by
  refine Fn.mk' (n := 18) (l := [(0, .int .u8 (c.toNat : Int))]) (fn := Try.f15) Try.func15 (by kernel_rfl) rfl rfl (by simp) rfl ?_
  intro h0 w0
  refine J.seq ?_
  refine J.region ?_
  refine JL.rd (Rd.assign Ev.c) ?_
  refine JL.nil ?_
  refine At.next ?_
  refine J.seq ?_
  refine J.region ?_
  refine JL.ef (Ef.mkbytes (n := 512) (i := Try.t5) Try.runUnderlying28 (fun w => by kernel_rfl) Try.sizeOf5 Try.zeroValue5 Ev.c Ev.c (by decide) (by decide) (by decide) ?_)
  intro b1
  refine JL.rd (Rd.assign (t0 rfl)) ?_
  refine JL.nil ?_
  refine At.next ?_
  refine J.seq ?_
  refine J.seq ?_
  refine J.region ?_
  refine JL.rd (Rd.assign Ev.c) ?_
  refine JL.nil ?_
  refine At.next ?_
  refine J.block ?_
  refine J.loop (X := Nat) (fun (x : Nat) => [(4, .int .i64 (x : Int))]) (K := [(3, _), (2, _), (0, _)]) (fun x => [bytesA (some ⟨b1, 0, none⟩) 512 (List.replicate x c ++ List.replicate (512 - x) 0)]) (fun x => x ≤ 512) (fun x => 512 - x) (0) ?_ ⟨lk0.trans (by first | with_reducible rfl | (congr 1; omega) | (simp; done) | (simp [*]; done)), trivial⟩ ⟨(lk1 rfl), (lk3 rfl), (lk4 rfl), trivial⟩ (fun _ => Stars.sel (by repeat (first | exact Sel.nil | apply Sel.cons (by repeat (first | exact .here | apply Take.there))))) ?_
  · omega
  intro x ρ hp
  simp only [List.cons_append, List.nil_append]
  refine J.seq ?_
  refine J.seq ?_
  refine J.region ?_
  refine JL.rd (Rd.move (t0 rfl)) ?_
  refine JL.rd (Rd.move (t2 rfl rfl)) ?_
  refine JL.rd (Rd.len Try.runUnderlying28 (t0 rfl)) ?_
  refine JL.rd (Rd.lss (t2 rfl rfl) (t0 rfl)) ?_
  refine JL.nil ?_
  refine At.next ?_
  refine J.condD (t0 rfl) ?_ ?_
  · intro hc2
    refine J.skip ?_
    refine At.next ?_
    refine J.seq ?_
    refine J.block ?_
    refine J.region ?_
    refine JL.rd (Rd.move (t5 rfl rfl)) ?_
    refine JL.rd (Rd.move (t5 rfl rfl)) ?_
    refine JL.rd (Rd.move (t9 rfl rfl)) ?_
    refine JL.rd (Rd.byIdx Try.runUnderlying28 Try.sizeOf5 (t2 rfl rfl) (t1 rfl rfl) (by first | (apply SIn.bytes; (repeat (first | exact .here | apply Take.there)); done) | (apply SIn.rowR; (repeat (first | exact .here | apply Take.there)); done) | (apply hA; (repeat (first | exact .here | apply Take.there)); done)) (by first | (simp; done) | (simp; omega) | omega | (simp [*]; done)) (by omega) (by omega)) ?_
    refine JL.ef0 (Ef.bySt Try.sizeOf5 (t0 rfl) (t1 rfl rfl) (by repeat (first | exact .here | apply Take.there)) (by first | (simp; done) | (simp; omega) | omega | (simp [*]; done)) ?_)
    refine JL.nil ?_
    refine At.blkN ?_
    refine At.next ?_
    refine J.region ?_
    refine JL.rd (Rd.move (t8 rfl rfl)) ?_
    refine JL.rd (Rd.add (t0 rfl) Ev.c (w64 (by omega) (by omega))) ?_
    refine JL.rd (Rd.assign (t0 rfl)) ?_
    refine JL.nil ?_
    rw [Int.toNat_natCast, fill_step (by omega)]
    refine At.again (x + 1) ?_ ?_ ⟨lk0.trans (by first | with_reducible rfl | (congr 1; omega) | (simp; done) | (simp [*]; done)), trivial⟩ ⟨(lk12 rfl), (lk13 rfl), (lk14 rfl), trivial⟩ (fun _ => Stars.sel (by repeat (first | exact Sel.nil | apply Sel.cons (by repeat (first | exact .here | apply Take.there)))))
    · omega
    · omega
  · intro hc2
    obtain rfl : x = 512 := by simp at hc2; omega
    refine J.exit ?_
    refine At.nextX ?_
    refine At.loopX ?_
    refine At.blkX ?_
    refine At.next ?_
    refine J.seq ?_
    refine J.region ?_
    refine JL.rd (Rd.move (t5 rfl rfl)) ?_
    refine JL.rd (Rd.byStr Try.underlying28 Try.underlying5 Try.underlying9 (t0 rfl) (by first | (apply SIn.bytes; (repeat (first | exact .here | apply Take.there)); done) | (apply SIn.rowR; (repeat (first | exact .here | apply Take.there)); done) | (apply hA; (repeat (first | exact .here | apply Take.there)); done)) (by first | (simp; done) | (simp; omega) | omega | (simp [*]; done))) ?_
    refine JL.rd (Rd.assign (t0 rfl)) ?_
    refine JL.nil ?_
    refine At.next ?_
    refine J.ret ?_
    exact At.ret (()) (trivial) (ResV.one rfl (t0 rfl)) (by simp) (fun _ => Stars.sel (by repeat (first | exact Sel.nil | apply Sel.cons (by repeat (first | exact .here | apply Take.there)))))

set_option maxRecDepth 100000 in
set_option maxHeartbeats 400000 in
theorem zero_any  :
    Fn Try.prog 26 [] [] (X := Unit) (fun _ => True) (fun _ => str zb) (fun _ => []) := by
  refine Fn.mk' (n := 3) (l := []) (fn := Try.f26) Try.func26 (by kernel_rfl) rfl rfl (by simp) rfl ?_
  intro h0 w0
  refine J.seq ?_
  refine J.region ?_
  refine JL.rd (Rd.assign Ev.c) ?_
  refine JL.nil ?_
  refine At.next ?_
  refine J.seq ?_
  refine J.region ?_
  refine JL.ef (Ef.mkbytes (n := 512) (i := Try.t5) Try.runUnderlying28 (fun w => by kernel_rfl) Try.sizeOf5 Try.zeroValue5 Ev.c Ev.c (by decide) (by decide) (by decide) ?_)
  intro b1
  refine JL.rd (Rd.byStr Try.underlying28 Try.underlying5 Try.underlying9 (t0 rfl) (by first | (apply SIn.bytes; (repeat (first | exact .here | apply Take.there)); done) | (apply SIn.rowR; (repeat (first | exact .here | apply Take.there)); done) | (apply hA; (repeat (first | exact .here | apply Take.there)); done)) (by first | (simp; done) | (simp; omega) | omega | (simp [*]; done))) ?_
  refine JL.rd (Rd.assign (t0 rfl)) ?_
  refine JL.nil ?_
  refine At.next ?_
  refine J.ret ?_
  exact At.ret (()) (trivial) (ResV.one rfl (t0 rfl)) (by unfold zb; rfl) (fun _ => Stars.sel (by repeat (first | exact Sel.nil | apply Sel.cons (by repeat (first | exact .here | apply Take.there)))))
end Go.Proofs.Ytfnoaohbjlnkgaa
