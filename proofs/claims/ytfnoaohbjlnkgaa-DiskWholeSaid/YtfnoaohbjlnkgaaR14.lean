/-
  Walks, printed by mk.py.
-/
import Derived.Test.YtfnoaohbjlnkgaaL4
import Derived.Test.YtfnoaohbjlnkgaaR7
namespace Go.Proofs.Ytfnoaohbjlnkgaa
attribute [local irreducible] J JL At Rd Ef DNew DCar DRun Then RetQ LoopQ


set_option maxRecDepth 100000 in
set_option maxHeartbeats 400000 in
theorem whole_any (b : UInt8) (a ca : Option Addr) (cap cc : Nat) (l : List OpV) (ch : List UInt8) (hl : l.length ≤ 9223372036854775807) (hch : ch.length ≤ 9223372036854775807) :
    Fn Try.prog 7 [.int .u8 (b.toNat : Int), .slice a l.length cap, .slice ca ch.length cc] [opsIn a l, rowR ca 1 (b1s ch)] (X := Unit) (fun _ => True) (fun _ => .bool true) (fun _ => []) := by
  refine Fn.mk' (n := 162) (l := [(0, .int .u8 (b.toNat : Int)), (1, .slice a l.length cap), (2, .slice ca ch.length cc)]) (fn := Try.f7) Try.func7 (by kernel_rfl) rfl rfl (by simp) rfl ?_
  intro h0 w0
  refine J.seq ?_
  refine J.region ?_
  refine JL.rd (Rd.assign Ev.c) ?_
  refine JL.nil ?_
  refine At.next ?_
  refine J.seq ?_
  refine J.seq ?_
  refine J.region ?_
  refine JL.ef (Ef.call .nil (known_any) (by repeat (first | exact Sel.nil | apply Sel.cons (by repeat (first | exact .here | apply Take.there)))) ?_)
  rintro - -
  simp only [List.cons_append, List.nil_append]
  refine JL.rd (Rd.not (EvB (t0 rfl) rfl)) ?_
  refine JL.nil ?_
  refine At.next ?_
  refine J.condF (EvB (t0 rfl) rfl) ?_
  refine J.skip ?_
  refine At.next ?_
  refine J.seq ?_
  refine J.region ?_
  refine JL.rd (Rd.move (t3 rfl rfl)) ?_
  refine JL.rd (Rd.move (t5 rfl rfl)) ?_
  refine JL.ef (Ef.call (.cons (t1 rfl rfl) (.cons (t0 rfl) .nil)) (play_any b a cap l hl) (by repeat (first | exact Sel.nil | apply Sel.cons (by repeat (first | exact .here | apply Take.there)))) ?_)
  rintro ⟨d, p1, q1, p2, q2⟩ -
  simp only [List.cons_append, List.nil_append]
  refine JL.rd (Rd.move (t0 rfl)) ?_
  refine JL.rd (Rd.extract (t0 rfl) (by repeat (first | exact .zero | apply Nth.succ))) ?_
  refine JL.rd (Rd.extract (t1 rfl rfl) (by repeat (first | exact .zero | apply Nth.succ))) ?_
  refine JL.rd (Rd.extract (t2 rfl rfl) (by repeat (first | exact .zero | apply Nth.succ))) ?_
  refine JL.ef (Ef.alloc Try.zeroValue51 rfl ?_)
  intro b1
  refine JL.rd (Rd.assign (t3 rfl rfl)) ?_
  refine JL.ef0 (Ef.stB Try.sizeOf51 (t1 rfl rfl) (t3 rfl rfl) (by repeat (first | exact .here | apply Rep.there)) (by repeat (first | exact .own | exact .rd | apply Blk.there)) (by first | rfl | assumption | simp_all) (by first | rfl | assumption | simp_all) (by first | exact bv_one _ | exact cons_one rfl (bv_one _) | (simp [Value.oneCell']; done) | (simp [Value.oneCell', str]; done)) (by decide) ?_)
  refine JL.rd (Rd.assign (t2 rfl rfl)) ?_
  refine JL.nil ?_
  refine At.next ?_
  refine J.seq ?_
  refine J.seq ?_
  generalize hE : (playD (newD (1 + b.toNat % 8)) l (min l.length 30)) = E
  obtain ⟨hops, hpend, hn⟩ := playD_ops (newD (1 + b.toNat % 8)) l (min l.length 30)
  rw [hE] at hops hpend hn
  have ho0 : (newD (1 + b.toNat % 8)).ops = 0 := rfl
  have hp0 : (newD (1 + b.toNat % 8)).pend.length = 0 := rfl
  have hnn : (newD (1 + b.toNat % 8)).n = 1 + b.toNat % 8 := rfl
  refine J.know (fun h s => dk_wf (Stars.sel (pre := [dk d E]) (by repeat (first | exact Sel.nil | apply Sel.cons (by repeat (first | exact .here | apply Take.there)))) s)) ?_
  intro hwE
  have hn1 := hwE.n1
  have hn2 := hwE.n2
  refine J.region ?_
  refine JL.rd (Rd.move (t0 rfl)) ?_
  refine JL.rd (Rd.not (EvB (t0 rfl) rfl)) ?_
  refine JL.nil ?_
  refine At.next ?_
  refine J.condF (EvB (t0 rfl) rfl) ?_
  refine J.skip ?_
  refine At.next ?_
  refine J.seq ?_
  refine J.region ?_
  refine JL.rd (Rd.assign Ev.c) ?_
  refine JL.rd (Rd.assign Ev.c) ?_
  refine JL.nil ?_
  refine At.next ?_
  refine J.seq ?_
  refine J.seq ?_
  refine J.region ?_
  refine JL.rd (Rd.assign Ev.c) ?_
  refine JL.nil ?_
  refine At.next ?_
  refine J.block ?_
  refine J.loop (X := Nat × (Option Addr × Nat) × (Option Addr × Nat)) (fun (x : Nat × (Option Addr × Nat) × (Option Addr × Nat)) => [(12, .int .i64 (x.1 : Int)), (10, .slice x.2.1.1 x.1 x.2.1.2), (11, .slice x.2.2.1 x.1 x.2.2.2)]) (K := [(7, _), (8, _), (6, _), (2, _)]) (fun x => [dk d E, pts b1 (.cells [Value.slice p1 E.n q1, .slice p2 E.pend.length q2, .int .i64 E.lim, .bool E.down, .int .i64 E.ops].toArray 51), rowR p1 1 (durs E.n E.dur), rowR p2 2 (E.pend.map wcell), rowR ca 1 (b1s ch), row x.2.1.1 x.2.1.2 5 1 (b1s (someL ch x.1)), row x.2.2.1 x.2.2.2 5 1 (b1s (allL x.1))]) (fun x => x.1 ≤ E.pend.length) (fun x => E.pend.length - x.1) ((0, (none, 0), (none, 0))) ?_ ⟨lk0.trans (by first | with_reducible rfl | (congr 1; omega) | (simp; done) | (simp [*]; done)), (lk2 rfl).trans (by first | with_reducible rfl | (congr 1; omega) | (simp; done) | (simp [*]; done)), (lk1 rfl).trans (by first | with_reducible rfl | (congr 1; omega) | (simp; done) | (simp [*]; done)), trivial⟩ ⟨(lk6 rfl), (lk7 rfl), (lk17 rfl), (lk20 rfl), trivial⟩ (fun _ s => by have s1 := row_nil 5 1 (row_nil 5 1 s); exact Stars.sel (by repeat (first | exact Sel.nil | apply Sel.cons (by repeat (first | exact .here | apply Take.there)))) s1) ?_
  · exact Nat.zero_le _
  rintro ⟨x, ⟨sa, sc⟩, ⟨aa, ac⟩⟩ ρ hx
  simp only [List.cons_append, List.nil_append]
  dsimp only at hx ⊢
  refine J.seq ?_
  refine J.seq ?_
  refine J.region ?_
  refine JL.rd (Rd.move (t0 rfl)) ?_
  refine JL.rd ((by first | exact Rd.fld0 fld_51_1 (t5 rfl rfl) | exact Rd.fld fld_51_1 (t5 rfl rfl))) ?_
  refine JL.rd (Rd.ldN Try.isAgg49 (t0 rfl) (by repeat (first | exact .own | exact .rd | apply Blk.there)) (by repeat (first | exact .zero | apply Nth.succ))) ?_
  refine JL.rd (Rd.len Try.runUnderlying49 (t0 rfl)) ?_
  refine JL.rd (Rd.lss (t3 rfl rfl) (t0 rfl)) ?_
  refine JL.nil ?_
  refine At.next ?_
  refine J.condD (t0 rfl) ?_ ?_
  · intro hc2
    refine J.skip ?_
    refine At.next ?_
    refine J.seq ?_
    refine J.block ?_
    refine J.seq ?_
    refine J.region ?_
    refine JL.rd (Rd.assign Ev.c) ?_
    refine JL.nil ?_
    refine At.next ?_
    refine J.seq ?_
    refine J.seq ?_
    refine J.region ?_
    refine JL.rd (Rd.move (t6 rfl rfl)) ?_
    refine JL.rd (Rd.move (t13 rfl rfl)) ?_
    refine JL.rd (Rd.len Try.runUnderlying28 (t0 rfl)) ?_
    refine JL.rd (Rd.lss (t2 rfl rfl) (t0 rfl)) ?_
    refine JL.nil ?_
    refine At.next ?_
    refine J.condD (t0 rfl) ?_ ?_
    · intro hc3
      refine J.region ?_
      refine JL.rd (Rd.move (t16 rfl rfl)) ?_
      refine JL.rd (Rd.move (t11 rfl rfl)) ?_
      refine JL.rd (Rd.byIdx Try.runUnderlying28 Try.sizeOf5 (t1 rfl rfl) (t0 rfl) (by first | (apply SIn.bytes; (repeat (first | exact .here | apply Take.there)); done) | (apply SIn.rowR; (repeat (first | exact .here | apply Take.there)); done) | (apply hA; (repeat (first | exact .here | apply Take.there)); done)) (by first | (simp; done) | (simp; omega) | omega | (simp [*]; done)) (by omega) (by omega)) ?_
      refine JL.rd (Rd.byLd Try.isAgg5 (t0 rfl) (by first | (apply SIn.bytes; (repeat (first | exact .here | apply Take.there)); done) | (apply SIn.rowR; (repeat (first | exact .here | apply Take.there)); done) | (apply hA; (repeat (first | exact .here | apply Take.there)); done)) (by first | (simp; done) | (simp; omega) | omega | (simp [*]; done))) ?_
      refine JL.rd (Rd.rem (t0 rfl) Ev.c (by omega) (by omega)) ?_
      rw [someC_val (by omega)]
      refine JL.rd (Rd.assign (t0 rfl)) ?_
      refine JL.nil ?_
      refine At.next ?_
      refine J.region ?_
      refine JL.rd (Rd.move (t17 rfl rfl)) ?_
      refine JL.rd (Rd.move (t1 rfl rfl)) ?_
      refine JL.ef (Ef.byLit1 (c := (someC ch x)) elt_28 (t0 rfl) ?_)
      intro b5
      refine JL.ef (Ef.appS elt_28 (t2 rfl rfl) (t0 rfl) (by repeat (first | exact .here | apply Take.there)) (by first | (apply SIn.row; (repeat (first | exact .here | apply Take.there)); done) | (apply SIn.rowR; (repeat (first | exact .here | apply Take.there)); done) | (apply SIn.bytes; (repeat (first | exact .here | apply Take.there)); done) | (apply hA; (repeat (first | exact .here | apply Take.there)); done)) (by first | (simp; done) | (simp; omega) | omega | (simp [*]; done)) (by first | (simp; done) | (simp; omega) | omega | (simp [*]; done)) (by rw [b1s_flatten]; exact bv_one _) (by first | omega | (simp; omega)) (by first | (simp only [maxLen]; omega) | (simp [maxLen]; omega)) ?_)
      intro a6 c7
      refine JL.rd (Rd.move (t22 rfl rfl)) ?_
      refine JL.ef (Ef.byLit1 (c := 1) elt_28 Ev.c ?_)
      intro b9
      refine JL.ef (Ef.appS elt_28 (t1 rfl rfl) (t0 rfl) (by repeat (first | exact .here | apply Take.there)) (by first | (apply SIn.row; (repeat (first | exact .here | apply Take.there)); done) | (apply SIn.rowR; (repeat (first | exact .here | apply Take.there)); done) | (apply SIn.bytes; (repeat (first | exact .here | apply Take.there)); done) | (apply hA; (repeat (first | exact .here | apply Take.there)); done)) (by first | (simp; done) | (simp; omega) | omega | (simp [*]; done)) (by first | (simp; done) | (simp; omega) | omega | (simp [*]; done)) (by rw [b1s_flatten]; exact bv_one _) (by first | omega | (simp; omega)) (by first | (simp only [maxLen]; omega) | (simp [maxLen]; omega)) ?_)
      intro a10 c11
      refine JL.rd (Rd.assign (t3 rfl rfl)) ?_
      refine JL.rd (Rd.assign (t1 rfl rfl)) ?_
      refine JL.nil ?_
      refine At.blkN ?_
      refine At.next ?_
      refine J.live (K := [(11, _), (10, _), (12, _), (7, _), (8, _), (6, _), (2, _)]) ⟨lk0, (lk1 rfl), (lk25 rfl), (lk28 rfl), (lk29 rfl), (lk30 rfl), (lk31 rfl), trivial⟩ ?_
      intro ρ12
      refine J.region ?_
      refine JL.rd (Rd.move (t2 rfl rfl)) ?_
      refine JL.rd (Rd.add (t0 rfl) Ev.c (w64 (by omega) (by omega))) ?_
      refine JL.rd (Rd.assign (t0 rfl)) ?_
      refine JL.nil ?_
      rw [b1s_snoc, b1s_snoc, someL_succ, allL_succ]
      refine At.again ((x + 1, (a6, c7), (a10, c11))) ?_ ?_ ⟨lk0.trans (by first | with_reducible rfl | (congr 1; omega) | (simp; done) | (simp [*]; done)), (lk4 rfl).trans (by first | with_reducible rfl | (congr 1; omega) | (simp; done) | (simp [*]; done)), (lk3 rfl).trans (by first | with_reducible rfl | (congr 1; omega) | (simp; done) | (simp [*]; done)), trivial⟩ ⟨(lk6 rfl), (lk7 rfl), (lk8 rfl), (lk9 rfl), trivial⟩ (fun _ => Stars.sel (by repeat (first | exact Sel.nil | apply Sel.cons (by repeat (first | exact .here | apply Take.there)))))
      · show x + 1 ≤ E.pend.length; omega
      · show E.pend.length - (x + 1) < E.pend.length - x; omega
    · intro hc3
      have hg : Value.int .u8 0 = .int .u8 ((someC ch x).toNat : Int) := by rw [someC_zero (by omega)]; rfl
      rw [hg]
      refine J.skip ?_
      refine At.next ?_
      refine J.region ?_
      refine JL.rd (Rd.move (t11 rfl rfl)) ?_
      refine JL.rd (Rd.move (t5 rfl rfl)) ?_
      refine JL.ef (Ef.byLit1 (c := (someC ch x)) elt_28 (t0 rfl) ?_)
      intro b14
      refine JL.ef (Ef.appS elt_28 (t2 rfl rfl) (t0 rfl) (by repeat (first | exact .here | apply Take.there)) (by first | (apply SIn.row; (repeat (first | exact .here | apply Take.there)); done) | (apply SIn.rowR; (repeat (first | exact .here | apply Take.there)); done) | (apply SIn.bytes; (repeat (first | exact .here | apply Take.there)); done) | (apply hA; (repeat (first | exact .here | apply Take.there)); done)) (by first | (simp; done) | (simp; omega) | omega | (simp [*]; done)) (by first | (simp; done) | (simp; omega) | omega | (simp [*]; done)) (by rw [b1s_flatten]; exact bv_one _) (by first | omega | (simp; omega)) (by first | (simp only [maxLen]; omega) | (simp [maxLen]; omega)) ?_)
      intro a15 c16
      refine JL.rd (Rd.move (t16 rfl rfl)) ?_
      refine JL.ef (Ef.byLit1 (c := 1) elt_28 Ev.c ?_)
      intro b18
      refine JL.ef (Ef.appS elt_28 (t1 rfl rfl) (t0 rfl) (by repeat (first | exact .here | apply Take.there)) (by first | (apply SIn.row; (repeat (first | exact .here | apply Take.there)); done) | (apply SIn.rowR; (repeat (first | exact .here | apply Take.there)); done) | (apply SIn.bytes; (repeat (first | exact .here | apply Take.there)); done) | (apply hA; (repeat (first | exact .here | apply Take.there)); done)) (by first | (simp; done) | (simp; omega) | omega | (simp [*]; done)) (by first | (simp; done) | (simp; omega) | omega | (simp [*]; done)) (by rw [b1s_flatten]; exact bv_one _) (by first | omega | (simp; omega)) (by first | (simp only [maxLen]; omega) | (simp [maxLen]; omega)) ?_)
      intro a19 c20
      refine JL.rd (Rd.assign (t3 rfl rfl)) ?_
      refine JL.rd (Rd.assign (t1 rfl rfl)) ?_
      refine JL.nil ?_
      refine At.blkN ?_
      refine At.next ?_
      refine J.region ?_
      refine JL.rd (Rd.move (t19 rfl rfl)) ?_
      refine JL.rd (Rd.add (t0 rfl) Ev.c (w64 (by omega) (by omega))) ?_
      refine JL.rd (Rd.assign (t0 rfl)) ?_
      refine JL.nil ?_
      rw [b1s_snoc, b1s_snoc, someL_succ, allL_succ]
      refine At.again ((x + 1, (a15, c16), (a19, c20))) ?_ ?_ ⟨lk0.trans (by first | with_reducible rfl | (congr 1; omega) | (simp; done) | (simp [*]; done)), (lk4 rfl).trans (by first | with_reducible rfl | (congr 1; omega) | (simp; done) | (simp [*]; done)), (lk3 rfl).trans (by first | with_reducible rfl | (congr 1; omega) | (simp; done) | (simp [*]; done)), trivial⟩ ⟨(lk25 rfl), (lk26 rfl), (lk27 rfl), (lk28 rfl), trivial⟩ (fun _ => Stars.sel (by repeat (first | exact Sel.nil | apply Sel.cons (by repeat (first | exact .here | apply Take.there)))))
      · show x + 1 ≤ E.pend.length; omega
      · show E.pend.length - (x + 1) < E.pend.length - x; omega
  · intro hc2
    obtain rfl : x = E.pend.length := by omega
    refine J.exit ?_
    refine At.nextX ?_
    refine At.loopX ?_
    refine At.blkX ?_
    refine At.next ?_
    refine J.seq ?_
    refine J.region ?_
    refine JL.rd (Rd.move (t8 rfl rfl)) ?_
    refine JL.ef (Ef.call (.cons (t0 rfl) .nil) (fail_any d E) (by repeat (first | exact Sel.nil | apply Sel.cons (by repeat (first | exact .here | apply Take.there)))) ?_)
    rintro - -
    rw [show ({ E with down := true } : Dk) = E.failed from rfl]
    simp only [List.cons_append, List.nil_append]
    refine JL.nil ?_
    refine At.next ?_
    refine J.seq ?_
    refine J.region ?_
    refine JL.rd (Rd.move (t10 rfl rfl)) ?_
    refine JL.ef (Ef.call (.cons (t0 rfl) .nil) (clone_any d E.failed) (by repeat (first | exact Sel.nil | apply Sel.cons (by repeat (first | exact .here | apply Take.there)))) ?_)
    rintro c1 -
    simp only [List.cons_append, List.nil_append]
    refine JL.rd (Rd.move (t12 rfl rfl)) ?_
    refine JL.ef (Ef.call (.cons (t0 rfl) .nil) (clone_any d E.failed) (by repeat (first | exact Sel.nil | apply Sel.cons (by repeat (first | exact .here | apply Take.there)))) ?_)
    rintro c2 -
    simp only [List.cons_append, List.nil_append]
    refine JL.rd (Rd.assign (t2 rfl rfl)) ?_
    refine JL.rd (Rd.assign (t1 rfl rfl)) ?_
    refine JL.nil ?_
    refine At.next ?_
    refine J.seq ?_
    refine J.seq ?_
    refine J.region ?_
    refine JL.rd (Rd.move (t16 rfl rfl)) ?_
    refine JL.rd (Rd.move (t15 rfl rfl)) ?_
    refine JL.ef (Ef.call (.cons (t1 rfl rfl) (.cons (t0 rfl) .nil)) (restart_any d E.failed sa E.pend.length sc (someL ch E.pend.length) (by simp) (row sa sc 5 1 (b1s (someL ch E.pend.length))) (fun t => SIn.row t)) (by repeat (first | exact Sel.nil | apply Sel.cons (by repeat (first | exact .here | apply Take.there)))) ?_)
    rintro - -
    rw [show backD E.failed (someL ch E.pend.length) = E.failed.restarted (someL ch E.pend.length) from rfl]
    simp only [List.cons_append, List.nil_append]
    refine JL.rd (Rd.neq (t0 rfl) Ev.c) ?_
    refine JL.rd (Rd.move (t0 rfl)) ?_
    refine JL.rdG rfl (EvB (t0 rfl) rfl) rfl (Rd.move (t6 rfl rfl)) ?_
    refine JL.rdG rfl (EvB (t1 rfl rfl) rfl) rfl (Rd.move (t21 rfl rfl)) ?_
    refine JL.efG rfl (EvB (t2 rfl rfl) rfl) rfl (Ef.call (.cons (t1 rfl rfl) (.cons (t0 rfl) .nil)) (restart_any c1 E.failed aa E.pend.length ac (allL E.pend.length) (by simp) (row aa ac 5 1 (b1s (allL E.pend.length))) (fun t => SIn.row t)) (by repeat (first | exact Sel.nil | apply Sel.cons (by repeat (first | exact .here | apply Take.there)))) ?_)
    rintro - -
    rw [show backD E.failed (allL E.pend.length) = E.failed.restarted (allL E.pend.length) from rfl]
    simp only [List.cons_append, List.nil_append]
    refine JL.rdG rfl (EvB (t3 rfl rfl) rfl) rfl (Rd.neq (t0 rfl) Ev.c) ?_
    refine JL.rd (Rd.pickF (EvB (t4 rfl rfl) rfl) (t0 rfl)) ?_
    refine JL.rd (Rd.move (t0 rfl)) ?_
    refine JL.rdG rfl (EvB (t0 rfl) rfl) rfl (Rd.move (t11 rfl rfl)) ?_
    refine JL.efG rfl (EvB (t1 rfl rfl) rfl) rfl (Ef.call (.cons (t0 rfl) (.cons Ev.c .nil)) (restart_nil c2 E.failed rfl) (by repeat (first | exact Sel.nil | apply Sel.cons (by repeat (first | exact .here | apply Take.there)))) ?_)
    rintro - -
    simp only [List.cons_append, List.nil_append]
    refine JL.rdG rfl (EvB (t2 rfl rfl) rfl) rfl (Rd.neq (t0 rfl) Ev.c) ?_
    refine JL.rd (Rd.pickF (EvB (t3 rfl rfl) rfl) (t0 rfl)) ?_
    refine JL.nil ?_
    refine At.next ?_
    refine J.condF (EvB (t0 rfl) rfl) ?_
    refine J.skip ?_
    refine At.next ?_
    refine J.seq ?_
    refine J.seq ?_
    refine J.live (K := [(15, _), (14, _), (7, _), (8, _), (6, _)]) ⟨(lk15 rfl), (lk16 rfl), (lk31 rfl), (lk32 rfl), (lk33 rfl), trivial⟩ ?_
    intro ρ21
    refine J.region ?_
    refine JL.rd (Rd.assign Ev.c) ?_
    refine JL.nil ?_
    refine At.next ?_
    refine J.block ?_
    refine J.loop (X := Nat) (fun (i : Nat) => [(16, .int .i64 (i : Int))]) (K := [(15, _), (14, _), (7, _), (8, _), (6, _)]) (fun i => [dk d (E.failed.restarted (someL ch E.pend.length)), dk c1 (E.failed.restarted (allL E.pend.length)), dk c2 (E.failed.restarted []), pts b1 (.cells [Value.slice p1 E.n q1, .slice p2 E.pend.length q2, .int .i64 E.lim, .bool E.down, .int .i64 E.ops].toArray 51), rowR p1 1 (durs E.n E.dur), rowR p2 2 (E.pend.map wcell)]) (fun i => i ≤ E.n) (fun i => E.n - i) (0) ?_ ⟨lk0.trans (by first | with_reducible rfl | (congr 1; omega) | (simp; done) | (simp [*]; done)), trivial⟩ ⟨(lk1 rfl), (lk2 rfl), (lk3 rfl), (lk4 rfl), (lk5 rfl), trivial⟩ (fun _ => Stars.sel (by repeat (first | exact Sel.nil | apply Sel.cons (by repeat (first | exact .here | apply Take.there))))) ?_
    · exact Nat.zero_le _
    intro i ρ hi
    simp only [List.cons_append, List.nil_append]
    refine J.seq ?_
    refine J.seq ?_
    refine J.region ?_
    refine JL.rd (Rd.move (t0 rfl)) ?_
    refine JL.rd ((by first | exact Rd.fld0 fld_51_0 (t5 rfl rfl) | exact Rd.fldz fld_51_0 (t5 rfl rfl))) ?_
    refine JL.rd (Rd.ldN Try.isAgg48 (t0 rfl) (by repeat (first | exact .own | exact .rd | apply Blk.there)) (by repeat (first | exact .zero | apply Nth.succ))) ?_
    refine JL.rd (Rd.len Try.runUnderlying48 (t0 rfl)) ?_
    refine JL.rd (Rd.lss (t3 rfl rfl) (t0 rfl)) ?_
    refine JL.nil ?_
    refine At.next ?_
    refine J.condD (t0 rfl) ?_ ?_
    · intro hc22
      refine J.skip ?_
      refine At.next ?_
      refine J.seq ?_
      refine J.block ?_
      refine J.seq ?_
      have hin : i < E.n := by omega
      have hdg := durs_get (dur := E.dur) hin
      have hall := whole_all hwE i
      have hnil := whole_nil E i
      have hsome := whole_some hwE ch i
      refine J.region ?_
      refine JL.rd (Rd.move (t8 rfl rfl)) ?_
      refine JL.rd (Rd.move (t6 rfl rfl)) ?_
      refine JL.ef (Ef.call (.cons (t1 rfl rfl) (.cons (t0 rfl) .nil)) (read_ok d (E.failed.restarted (someL ch E.pend.length)) i (by have hri : reachC (E.failed.restarted (someL ch E.pend.length)) i = 0 := (by unfold reachC; rw [if_neg (by simp [Dk.restarted]), if_neg]; show ¬ ((i : Int) < 0 ∨ (E.n : Int) ≤ i); omega); exact hri)) (by repeat (first | exact Sel.nil | apply Sel.cons (by repeat (first | exact .here | apply Take.there)))) ?_)
      rintro ⟨ra, rc⟩ -
      simp only [List.cons_append, List.nil_append]
      refine JL.rd (Rd.move (t0 rfl)) ?_
      refine JL.rd (Rd.extract (t0 rfl) (by repeat (first | exact .zero | apply Nth.succ))) ?_
      refine JL.rd (Rd.extract (t1 rfl rfl) (by repeat (first | exact .zero | apply Nth.succ))) ?_
      refine JL.rd (Rd.assign (t1 rfl rfl)) ?_
      refine JL.rd (Rd.assign (t1 rfl rfl)) ?_
      refine JL.nil ?_
      refine At.next ?_
      refine J.seq ?_
      refine J.draw [⟨false, 0, 0⟩, ⟨false, 0, 0⟩, ⟨false, 0, 0⟩, ⟨false, 0, 0⟩, ⟨false, 0, 0⟩, ⟨false, 0, 0⟩, ⟨false, 0, 0⟩, ⟨false, 0, 0⟩, ⟨false, 0, 0⟩] [] mixed rfl ?_
      refine DRun.end [] [0, 1, 2, 3, 4, 5, 6, 7, 8] rfl rfl ?_ ?_
      · exact .nil
      refine DNew.rd rfl (Rd.move (t1 rfl rfl)) ?_
      refine DNew.rd rfl (Rd.byStr Try.underlying28 Try.underlying5 Try.underlying9 (t0 rfl) (by first | (apply SIn.bytes; (repeat (first | exact .here | apply Take.there)); done) | (apply SIn.rowR; (repeat (first | exact .here | apply Take.there)); done) | (apply hA; (repeat (first | exact .here | apply Take.there)); done)) (by first | (simp; done) | (simp; omega) | omega | (simp [*]; done))) ?_
      refine DNew.rd rfl ((by first | exact Rd.fld0 fld_51_0 (t19 rfl rfl) | exact Rd.fldz fld_51_0 (t19 rfl rfl))) ?_
      refine DNew.rd rfl (Rd.ldN Try.isAgg48 (t0 rfl) (by repeat (first | exact .own | exact .rd | apply Blk.there)) (by repeat (first | exact .zero | apply Nth.succ))) ?_
      refine DNew.rd rfl (Rd.move (t17 rfl rfl)) ?_
      refine DNew.rd rfl (Rd.sIdx Try.runUnderlying48 Try.sizeOf9 (t1 rfl rfl) (t0 rfl) (SIn.rowR (by repeat (first | exact .here | apply Take.there))) (by simp) (by omega) (by omega)) ?_
      refine DNew.rd rfl (Rd.sLd Try.isAgg9 (t0 rfl) (SIn.rowR (by repeat (first | exact .here | apply Take.there))) (by rw [Int.toNat_natCast]; exact hdg) rfl) ?_
      refine DNew.rd rfl (Rd.str_eql (t5 rfl rfl) (t0 rfl)) ?_
      refine DNew.rd rfl (Rd.assign (t0 rfl)) ?_
      refine DNew.nil ?_
      refine At.next ?_
      refine J.seq ?_
      refine J.seq ?_
      refine J.region ?_
      refine JL.rd (Rd.assign Ev.c) ?_
      refine JL.nil ?_
      refine At.next ?_
      refine J.block ?_
      refine J.loop (X := Nat) (fun (k : Nat) => [(20, .int .i64 (k : Int)), (19, .bool (fnd ((E.failed.restarted (someL ch E.pend.length)).vis i) E i k))]) (K := [(17, _), (16, _), (15, _), (14, _), (7, _), (8, _), (6, _)]) (fun k => [dk d (E.failed.restarted (someL ch E.pend.length)), dk c1 (E.failed.restarted (allL E.pend.length)), dk c2 (E.failed.restarted []), pts b1 (.cells [Value.slice p1 E.n q1, .slice p2 E.pend.length q2, .int .i64 E.lim, .bool E.down, .int .i64 E.ops].toArray 51), rowR p1 1 (durs E.n E.dur), rowR p2 2 (E.pend.map wcell), bytesA ra rc ((E.failed.restarted (someL ch E.pend.length)).vis i)]) (fun k => k ≤ E.pend.length) (fun k => E.pend.length - k) (0) ?_ ⟨lk0.trans (by first | (first | (simp [fnd_zero]; done) | (simp [hfs, *]; done); done) | with_reducible rfl | (congr 1; omega) | (simp; done) | (simp [*]; done)), (lk1 rfl).trans (by first | (first | (simp [fnd_zero]; done) | (simp [hfs, *]; done); done) | with_reducible rfl | (congr 1; omega) | (simp; done) | (simp [*]; done)), trivial⟩ ⟨(lk11 rfl), (lk23 rfl), (lk24 rfl), (lk25 rfl), (lk26 rfl), (lk27 rfl), (lk28 rfl), trivial⟩ (fun _ => Stars.sel (by repeat (first | exact Sel.nil | apply Sel.cons (by repeat (first | exact .here | apply Take.there))))) ?_
      · exact Nat.zero_le _
      intro k ρ hk
      simp only [List.cons_append, List.nil_append]
      refine J.seq ?_
      refine J.seq ?_
      refine J.region ?_
      refine JL.rd (Rd.move (t0 rfl)) ?_
      refine JL.rd ((by first | exact Rd.fld0 fld_51_1 (t8 rfl rfl) | exact Rd.fld fld_51_1 (t8 rfl rfl))) ?_
      refine JL.rd (Rd.ldN Try.isAgg49 (t0 rfl) (by repeat (first | exact .own | exact .rd | apply Blk.there)) (by repeat (first | exact .zero | apply Nth.succ))) ?_
      refine JL.rd (Rd.len Try.runUnderlying49 (t0 rfl)) ?_
      refine JL.rd (Rd.lss (t3 rfl rfl) (t0 rfl)) ?_
      refine JL.nil ?_
      refine At.next ?_
      refine J.condD (t0 rfl) ?_ ?_
      · intro hc23
        obtain ⟨p, hp⟩ : ∃ p, E.pend[k]? = some p := ⟨_, List.getElem?_eq_getElem (by omega)⟩
        have hx : (E.pend.map wcell)[(k : Int).toNat]? = some [.int .i64 (p.1 : Int), str p.2] := by rw [Int.toNat_natCast]; exact wcells_get hp
        have hx2 : (k : Int).toNat < (E.pend.map wcell).length := by simp; omega
        have hfs := fnd_succ (B := (E.failed.restarted (someL ch E.pend.length)).vis i) (E := E) (i := i) hp
        refine J.skip ?_
        refine At.next ?_
        refine J.seq ?_
        refine J.block ?_
        refine J.draw [⟨false, 0, 0⟩, ⟨false, 0, 0⟩, ⟨false, 0, 0⟩, ⟨false, 0, 0⟩, ⟨false, 0, 0⟩, ⟨false, 0, 0⟩, ⟨false, 0, 0⟩, ⟨false, 0, 0⟩, ⟨false, 0, 0⟩, ⟨false, 0, 0⟩, ⟨false, 0, 0⟩, ⟨false, 0, 0⟩, ⟨false, 0, 0⟩, ⟨false, 0, 0⟩, ⟨false, 0, 0⟩, ⟨false, 0, 0⟩, ⟨false, 0, 0⟩, ⟨false, 0, 0⟩, ⟨false, 0, 0⟩, ⟨false, 0, 0⟩, ⟨false, 0, 0⟩, ⟨false, 0, 0⟩, ⟨true, 0, 0⟩] [22] mixed rfl ?_
        refine DRun.at [] [0, 1, 2, 3, 4, 5, 6, 7, 8, 9, 10, 11, 12, 13, 14, 15, 16, 17, 18, 19, 20, 21] rfl rfl ?_ ?_
        · exact .nil
        refine DNew.rd rfl (Rd.move (t6 rfl rfl)) ?_
        refine DNew.rd rfl (Rd.move (t0 rfl)) ?_
        refine DNew.caseB (t0 rfl) ?_ ?_
        · intro hb24
          refine DNew.skG rfl rfl (EvB (t0 rfl) hb24) rfl ?_
          refine DNew.skG rfl rfl (EvB (t1 rfl rfl) hb24) rfl ?_
          refine DNew.skG rfl rfl (EvB (t2 rfl rfl) hb24) rfl ?_
          refine DNew.skG rfl rfl (EvB (t3 rfl rfl) hb24) rfl ?_
          refine DNew.skG rfl rfl (EvB (t4 rfl rfl) hb24) rfl ?_
          refine DNew.skG rfl rfl (EvB (t5 rfl rfl) hb24) rfl ?_
          refine DNew.skG rfl rfl (EvB (t6 rfl rfl) hb24) rfl ?_
          refine DNew.skG rfl rfl (EvB (t7 rfl rfl) hb24) rfl ?_
          refine DNew.skG rfl rfl (EvB (t8 rfl rfl) hb24) rfl ?_
          refine DNew.skU rfl rfl (t0 rfl) ?_
          refine DNew.skU rfl rfl (t1 rfl rfl) ?_
          refine DNew.skU rfl rfl (t2 rfl rfl) ?_
          refine DNew.skU rfl rfl (t3 rfl rfl) ?_
          refine DNew.skU rfl rfl (t4 rfl rfl) ?_
          refine DNew.skU rfl rfl (t5 rfl rfl) ?_
          refine DNew.skU rfl rfl (t6 rfl rfl) ?_
          refine DNew.skU rfl rfl (t7 rfl rfl) ?_
          refine DNew.skU rfl rfl (t8 rfl rfl) ?_
          refine DNew.skG rfl rfl (EvB (t18 rfl rfl) hb24) rfl ?_
          refine DNew.rd rfl (Rd.pickT (EvB (t19 rfl rfl) hb24) Ev.c) ?_
          refine DNew.nil ?_
          refine DRun.ef rfl (Rd.ef (Rd.assign (t0 rfl)) ?_)
          refine DRun.end [] [] rfl rfl ?_ ?_
          · exact .nil
          refine DNew.nil ?_
          refine At.blkN ?_
          refine At.next ?_
          refine J.live (K := [(19, _), (20, _), (17, _), (16, _), (15, _), (14, _), (7, _), (8, _), (6, _)]) ⟨lk0, (lk28 rfl), (lk30 rfl), (lk31 rfl), (lk32 rfl), (lk33 rfl), (lk34 rfl), (lk35 rfl), (lk36 rfl), trivial⟩ ?_
          intro ρ25
          refine J.region ?_
          refine JL.rd (Rd.move (t1 rfl rfl)) ?_
          refine JL.rd (Rd.add (t0 rfl) Ev.c (w64 (by omega) (by omega))) ?_
          refine JL.rd (Rd.assign (t0 rfl)) ?_
          refine JL.nil ?_
          refine At.again (k + 1) ?_ ?_ ⟨lk0.trans (by first | (first | (simp [fnd_zero]; done) | (simp [hfs, *]; done); done) | with_reducible rfl | (congr 1; omega) | (simp; done) | (simp [*]; done)), (lk3 rfl).trans (by first | (first | (simp [fnd_zero]; done) | (simp [hfs, *]; done); done) | with_reducible rfl | (congr 1; omega) | (simp; done) | (simp [*]; done)), trivial⟩ ⟨(lk5 rfl), (lk6 rfl), (lk7 rfl), (lk8 rfl), (lk9 rfl), (lk10 rfl), (lk11 rfl), trivial⟩ (fun _ => Stars.sel (by repeat (first | exact Sel.nil | apply Sel.cons (by repeat (first | exact .here | apply Take.there)))))
          · omega
          · omega
        · intro hb24
          refine DNew.rdG rfl rfl (EvB (t0 rfl) hb24) rfl ((by first | exact Rd.fld0 fld_51_1 (t14 rfl rfl) | exact Rd.fld fld_51_1 (t14 rfl rfl))) ?_
          refine DNew.rdG rfl rfl (EvB (t1 rfl rfl) hb24) rfl (Rd.ldN Try.isAgg49 (t0 rfl) (by repeat (first | exact .own | exact .rd | apply Blk.there)) (by repeat (first | exact .zero | apply Nth.succ))) ?_
          refine DNew.rdG rfl rfl (EvB (t2 rfl rfl) hb24) rfl (Rd.move (t9 rfl rfl)) ?_
          refine DNew.rdG rfl rfl (EvB (t3 rfl rfl) hb24) rfl (Rd.sIdx Try.runUnderlying49 Try.sizeOf65 (t1 rfl rfl) (t0 rfl) (SIn.rowR (by repeat (first | exact .here | apply Take.there))) (by simp) (by omega) (by omega)) ?_
          refine DNew.rdG rfl rfl (EvB (t4 rfl rfl) hb24) rfl (Rd.sFld0 fld_65_0 (t0 rfl) (SIn.rowR (by repeat (first | exact .here | apply Take.there))) hx2) ?_
          refine DNew.rdG rfl rfl (EvB (t5 rfl rfl) hb24) rfl (Rd.sLd Try.isAgg3 (t0 rfl) (SIn.rowR (by repeat (first | exact .here | apply Take.there))) hx rfl) ?_
          refine DNew.rdG rfl rfl (EvB (t6 rfl rfl) hb24) rfl (Rd.move (t16 rfl rfl)) ?_
          refine DNew.rdG rfl rfl (EvB (t7 rfl rfl) hb24) rfl (Rd.eql (t1 rfl rfl) (t0 rfl)) ?_
          refine DNew.rdG rfl rfl (EvB (t8 rfl rfl) hb24) rfl (Rd.move (t0 rfl)) ?_
          refine DNew.caseD (t0 rfl) ?_ ?_
          · intro hb26p hb26
            refine DNew.rdG rfl rfl (EvB (t0 rfl) hb26) rfl (Rd.move (t18 rfl rfl)) ?_
            refine DNew.rdG rfl rfl (EvB (t1 rfl rfl) hb26) rfl (Rd.byStr Try.underlying28 Try.underlying5 Try.underlying9 (t0 rfl) (by first | (apply SIn.bytes; (repeat (first | exact .here | apply Take.there)); done) | (apply SIn.rowR; (repeat (first | exact .here | apply Take.there)); done) | (apply hA; (repeat (first | exact .here | apply Take.there)); done)) (by first | (simp; done) | (simp; omega) | omega | (simp [*]; done))) ?_
            refine DNew.rdG rfl rfl (EvB (t2 rfl rfl) hb26) rfl ((by first | exact Rd.fld0 fld_51_1 (t25 rfl rfl) | exact Rd.fld fld_51_1 (t25 rfl rfl))) ?_
            refine DNew.rdG rfl rfl (EvB (t3 rfl rfl) hb26) rfl (Rd.ldN Try.isAgg49 (t0 rfl) (by repeat (first | exact .own | exact .rd | apply Blk.there)) (by repeat (first | exact .zero | apply Nth.succ))) ?_
            refine DNew.rdG rfl rfl (EvB (t4 rfl rfl) hb26) rfl (Rd.move (t20 rfl rfl)) ?_
            refine DNew.rdG rfl rfl (EvB (t5 rfl rfl) hb26) rfl (Rd.sIdx Try.runUnderlying49 Try.sizeOf65 (t1 rfl rfl) (t0 rfl) (SIn.rowR (by repeat (first | exact .here | apply Take.there))) (by simp) (by omega) (by omega)) ?_
            refine DNew.rdG rfl rfl (EvB (t6 rfl rfl) hb26) rfl (Rd.sFld0 fld_65_1 (t0 rfl) (SIn.rowR (by repeat (first | exact .here | apply Take.there))) hx2) ?_
            refine DNew.rdG rfl rfl (EvB (t7 rfl rfl) hb26) rfl (Rd.sLd Try.isAgg9 (t0 rfl) (SIn.rowR (by repeat (first | exact .here | apply Take.there))) hx rfl) ?_
            refine DNew.rdG rfl rfl (EvB (t8 rfl rfl) hb26) rfl (Rd.str_eql (t6 rfl rfl) (t0 rfl)) ?_
            refine DNew.rdG rfl rfl (EvB (t18 rfl rfl) hb24) rfl (Rd.pickT (EvB (t9 rfl rfl) hb26) (t0 rfl)) ?_
            refine DNew.rd rfl (Rd.pickF (EvB (t19 rfl rfl) hb24) (t0 rfl)) ?_
            refine DNew.nil ?_
            refine DRun.ef rfl (Rd.ef (Rd.assign (t0 rfl)) ?_)
            refine DRun.end [] [] rfl rfl ?_ ?_
            · exact .nil
            refine DNew.nil ?_
            refine At.blkN ?_
            refine At.next ?_
            refine J.live (K := [(19, _), (20, _), (17, _), (16, _), (15, _), (14, _), (7, _), (8, _), (6, _)]) ⟨lk0, (lk28 rfl), (lk30 rfl), (lk31 rfl), (lk32 rfl), (lk33 rfl), (lk34 rfl), (lk35 rfl), (lk36 rfl), trivial⟩ ?_
            intro ρ27
            refine J.region ?_
            refine JL.rd (Rd.move (t1 rfl rfl)) ?_
            refine JL.rd (Rd.add (t0 rfl) Ev.c (w64 (by omega) (by omega))) ?_
            refine JL.rd (Rd.assign (t0 rfl)) ?_
            refine JL.nil ?_
            refine At.again (k + 1) ?_ ?_ ⟨lk0.trans (by first | (first | (simp [fnd_zero]; done) | (simp [hfs, *]; done); done) | with_reducible rfl | (congr 1; omega) | (simp; done) | (simp [*]; done)), (lk3 rfl).trans (by first | (first | (simp [fnd_zero]; done) | (simp [hfs, *]; done); done) | with_reducible rfl | (congr 1; omega) | (simp; done) | (simp [*]; done)), trivial⟩ ⟨(lk5 rfl), (lk6 rfl), (lk7 rfl), (lk8 rfl), (lk9 rfl), (lk10 rfl), (lk11 rfl), trivial⟩ (fun _ => Stars.sel (by repeat (first | exact Sel.nil | apply Sel.cons (by repeat (first | exact .here | apply Take.there)))))
            · omega
            · omega
          · intro hb26p hb26
            refine DNew.skG rfl rfl (EvB (t0 rfl) hb26) rfl ?_
            refine DNew.skG rfl rfl (EvB (t1 rfl rfl) hb26) rfl ?_
            refine DNew.skG rfl rfl (EvB (t2 rfl rfl) hb26) rfl ?_
            refine DNew.skG rfl rfl (EvB (t3 rfl rfl) hb26) rfl ?_
            refine DNew.skG rfl rfl (EvB (t4 rfl rfl) hb26) rfl ?_
            refine DNew.skG rfl rfl (EvB (t5 rfl rfl) hb26) rfl ?_
            refine DNew.skG rfl rfl (EvB (t6 rfl rfl) hb26) rfl ?_
            refine DNew.skG rfl rfl (EvB (t7 rfl rfl) hb26) rfl ?_
            refine DNew.skG rfl rfl (EvB (t8 rfl rfl) hb26) rfl ?_
            refine DNew.rdG rfl rfl (EvB (t18 rfl rfl) hb24) rfl (Rd.pickF (EvB (t9 rfl rfl) hb26) Ev.c) ?_
            refine DNew.rd rfl (Rd.pickF (EvB (t19 rfl rfl) hb24) (t0 rfl)) ?_
            refine DNew.nil ?_
            refine DRun.ef rfl (Rd.ef (Rd.assign (t0 rfl)) ?_)
            refine DRun.end [] [] rfl rfl ?_ ?_
            · exact .nil
            refine DNew.nil ?_
            refine At.blkN ?_
            refine At.next ?_
            refine J.live (K := [(19, _), (20, _), (17, _), (16, _), (15, _), (14, _), (7, _), (8, _), (6, _)]) ⟨lk0, (lk28 rfl), (lk30 rfl), (lk31 rfl), (lk32 rfl), (lk33 rfl), (lk34 rfl), (lk35 rfl), (lk36 rfl), trivial⟩ ?_
            intro ρ28
            refine J.region ?_
            refine JL.rd (Rd.move (t1 rfl rfl)) ?_
            refine JL.rd (Rd.add (t0 rfl) Ev.c (w64 (by omega) (by omega))) ?_
            refine JL.rd (Rd.assign (t0 rfl)) ?_
            refine JL.nil ?_
            refine At.again (k + 1) ?_ ?_ ⟨lk0.trans (by first | (first | (simp [fnd_zero]; done) | (simp [hfs, *]; done); done) | with_reducible rfl | (congr 1; omega) | (simp; done) | (simp [*]; done)), (lk3 rfl).trans (by first | (first | (simp [fnd_zero]; done) | (simp [hfs, *]; done); done) | with_reducible rfl | (congr 1; omega) | (simp; done) | (simp [*]; done)), trivial⟩ ⟨(lk5 rfl), (lk6 rfl), (lk7 rfl), (lk8 rfl), (lk9 rfl), (lk10 rfl), (lk11 rfl), trivial⟩ (fun _ => Stars.sel (by repeat (first | exact Sel.nil | apply Sel.cons (by repeat (first | exact .here | apply Take.there)))))
            · omega
            · omega
      · intro hc23
        obtain rfl : k = E.pend.length := by omega
        refine J.exit ?_
        refine At.nextX ?_
        refine At.loopX ?_
        refine At.blkX ?_
        refine At.next ?_
        refine J.seq ?_
        rw [hsome]
        refine J.region ?_
        refine JL.rd (Rd.move (t10 rfl rfl)) ?_
        refine JL.rd (Rd.move (t9 rfl rfl)) ?_
        refine JL.ef (Ef.call (.cons (t1 rfl rfl) (.cons (t0 rfl) .nil)) (read_ok c1 (E.failed.restarted (allL E.pend.length)) i (by have hri : reachC (E.failed.restarted (allL E.pend.length)) i = 0 := (by unfold reachC; rw [if_neg (by simp [Dk.restarted]), if_neg]; show ¬ ((i : Int) < 0 ∨ (E.n : Int) ≤ i); omega); exact hri)) (by repeat (first | exact Sel.nil | apply Sel.cons (by repeat (first | exact .here | apply Take.there)))) ?_)
        rintro ⟨rb, rd⟩ -
        simp only [List.cons_append, List.nil_append]
        refine JL.rd (Rd.move (t0 rfl)) ?_
        refine JL.rd (Rd.extract (t0 rfl) (by repeat (first | exact .zero | apply Nth.succ))) ?_
        refine JL.rd (Rd.extract (t1 rfl rfl) (by repeat (first | exact .zero | apply Nth.succ))) ?_
        refine JL.rd (Rd.assign (t1 rfl rfl)) ?_
        refine JL.rd (Rd.assign (t1 rfl rfl)) ?_
        refine JL.nil ?_
        refine At.next ?_
        refine J.seq ?_
        refine J.region ?_
        refine JL.rd (Rd.move (t17 rfl rfl)) ?_
        refine JL.rd (Rd.move (t17 rfl rfl)) ?_
        refine JL.ef (Ef.call (.cons (t1 rfl rfl) (.cons (t0 rfl) .nil)) (read_ok c2 (E.failed.restarted []) i (by have hri : reachC (E.failed.restarted []) i = 0 := (by unfold reachC; rw [if_neg (by simp [Dk.restarted]), if_neg]; show ¬ ((i : Int) < 0 ∨ (E.n : Int) ≤ i); omega); exact hri)) (by repeat (first | exact Sel.nil | apply Sel.cons (by repeat (first | exact .here | apply Take.there)))) ?_)
        rintro ⟨re, rf⟩ -
        simp only [List.cons_append, List.nil_append]
        refine JL.rd (Rd.move (t0 rfl)) ?_
        refine JL.rd (Rd.extract (t0 rfl) (by repeat (first | exact .zero | apply Nth.succ))) ?_
        refine JL.rd (Rd.extract (t1 rfl rfl) (by repeat (first | exact .zero | apply Nth.succ))) ?_
        refine JL.rd (Rd.assign (t1 rfl rfl)) ?_
        refine JL.rd (Rd.assign (t1 rfl rfl)) ?_
        refine JL.nil ?_
        refine At.next ?_
        refine J.seq ?_
        refine J.live (K := [(23, _), (21, _), (19, _), (16, _), (15, _), (14, _), (7, _), (8, _), (6, _)]) ⟨(lk1 rfl), (lk9 rfl), (lk22 rfl), (lk24 rfl), (lk25 rfl), (lk26 rfl), (lk27 rfl), (lk28 rfl), (lk29 rfl), trivial⟩ ?_
        intro ρ29
        refine J.draw [⟨false, 0, 0⟩, ⟨false, 0, 0⟩, ⟨false, 0, 0⟩, ⟨false, 0, 1⟩, ⟨false, 0, 1⟩, ⟨false, 0, 0⟩, ⟨false, 0, 0⟩, ⟨true, 0, 0⟩, ⟨false, 1, 1⟩, ⟨false, 1, 1⟩, ⟨false, 1, 1⟩, ⟨false, 1, 1⟩, ⟨false, 1, 1⟩, ⟨false, 1, 1⟩, ⟨false, 1, 1⟩, ⟨false, 1, 1⟩, ⟨false, 1, 1⟩, ⟨false, 1, 1⟩, ⟨false, 1, 1⟩, ⟨false, 1, 1⟩] [7] mixed rfl ?_
        refine DRun.at [] [0, 1, 2, 3, 4, 5, 6] rfl rfl ?_ ?_
        · exact .nil
        refine DNew.rd rfl (Rd.move (t2 rfl rfl)) ?_
        refine DNew.rd rfl (Rd.not (EvB (t0 rfl) rfl)) ?_
        refine DNew.rd rfl (Rd.move (t0 rfl)) ?_
        refine DNew.rdG rfl rfl (EvB (t0 rfl) rfl) rfl (Rd.move (t4 rfl rfl)) ?_
        refine DNew.rdG rfl rfl (EvB (t1 rfl rfl) rfl) rfl (Rd.byStr Try.underlying28 Try.underlying5 Try.underlying9 (t0 rfl) (by first | (apply SIn.bytes; (repeat (first | exact .here | apply Take.there)); done) | (apply SIn.rowR; (repeat (first | exact .here | apply Take.there)); done) | (apply hA; (repeat (first | exact .here | apply Take.there)); done)) (by first | (simp; done) | (simp; omega) | omega | (simp [*]; done))) ?_
        refine DNew.rdG rfl rfl (EvB (t2 rfl rfl) rfl) rfl (Rd.ldB Try.isAgg51 Try.sizeOf51 (t12 rfl rfl) (by repeat (first | exact .own | exact .rd | apply Blk.there)) (by first | rfl | assumption | simp_all)) ?_
        refine DNew.rdG rfl rfl (EvB (t3 rfl rfl) rfl) rfl (Rd.move (t9 rfl rfl)) ?_
        refine DNew.nil ?_
        refine DRun.efG rfl rfl (EvB (t4 rfl rfl) rfl) rfl (Ef.call (.cons (t1 rfl rfl) (.cons (t0 rfl) .nil)) (rvis_any p1 p2 q1 q2 E hwE i (by omega)) (by repeat (first | exact Sel.nil | apply Sel.cons (by repeat (first | exact .here | apply Take.there)))) ?_)
        rintro - -
        simp only [List.cons_append, List.nil_append]
        refine DRun.end [3, 4] [8, 9, 10, 11, 12, 13, 14, 15, 16, 17, 18, 19] rfl rfl ?_ ?_
        · refine DCar.rdG rfl rfl (EvB (t5 rfl rfl) rfl) rfl (lk4 rfl) (Rd.move (t9 rfl rfl)) ?_
          refine DCar.rdG rfl rfl (EvB (t5 rfl rfl) rfl) rfl (lk3 rfl) (Rd.byStr Try.underlying28 Try.underlying5 Try.underlying9 (t4 rfl rfl) (by first | (apply SIn.bytes; (repeat (first | exact .here | apply Take.there)); done) | (apply SIn.rowR; (repeat (first | exact .here | apply Take.there)); done) | (apply hA; (repeat (first | exact .here | apply Take.there)); done)) (by first | (simp; done) | (simp; omega) | omega | (simp [*]; done))) ?_
          exact .nil
        refine DNew.rdG rfl rfl (EvB (t5 rfl rfl) rfl) rfl (Rd.str_neq (t3 rfl rfl) (t0 rfl)) ?_
        refine DNew.rd rfl (Rd.pickF (EvB (t6 rfl rfl) rfl) (t0 rfl)) ?_
        refine DNew.rd rfl (Rd.move (t0 rfl)) ?_
        refine DNew.rdG rfl rfl (EvB (t0 rfl) (decide_eq_false (fun h => h hall))) rfl (Rd.move (t11 rfl rfl)) ?_
        refine DNew.rdG rfl rfl (EvB (t1 rfl rfl) (decide_eq_false (fun h => h hall))) rfl (Rd.byStr Try.underlying28 Try.underlying5 Try.underlying9 (t0 rfl) (by first | (apply SIn.bytes; (repeat (first | exact .here | apply Take.there)); done) | (apply SIn.rowR; (repeat (first | exact .here | apply Take.there)); done) | (apply hA; (repeat (first | exact .here | apply Take.there)); done)) (by first | (simp; done) | (simp; omega) | omega | (simp [*]; done))) ?_
        refine DNew.rdG rfl rfl (EvB (t2 rfl rfl) (decide_eq_false (fun h => h hall))) rfl ((by first | exact Rd.fld0 fld_51_0 (t20 rfl rfl) | exact Rd.fldz fld_51_0 (t20 rfl rfl))) ?_
        refine DNew.rdG rfl rfl (EvB (t3 rfl rfl) (decide_eq_false (fun h => h hall))) rfl (Rd.ldN Try.isAgg48 (t0 rfl) (by repeat (first | exact .own | exact .rd | apply Blk.there)) (by repeat (first | exact .zero | apply Nth.succ))) ?_
        refine DNew.rdG rfl rfl (EvB (t4 rfl rfl) (decide_eq_false (fun h => h hall))) rfl (Rd.move (t18 rfl rfl)) ?_
        refine DNew.rdG rfl rfl (EvB (t5 rfl rfl) (decide_eq_false (fun h => h hall))) rfl (Rd.sIdx Try.runUnderlying48 Try.sizeOf9 (t1 rfl rfl) (t0 rfl) (SIn.rowR (by repeat (first | exact .here | apply Take.there))) (by simp) (by omega) (by omega)) ?_
        refine DNew.rdG rfl rfl (EvB (t6 rfl rfl) (decide_eq_false (fun h => h hall))) rfl (Rd.sLd Try.isAgg9 (t0 rfl) (SIn.rowR (by repeat (first | exact .here | apply Take.there))) (by rw [Int.toNat_natCast]; exact hdg) rfl) ?_
        refine DNew.rdG rfl rfl (EvB (t7 rfl rfl) (decide_eq_false (fun h => h hall))) rfl (Rd.str_neq (t5 rfl rfl) (t0 rfl)) ?_
        refine DNew.rd rfl (Rd.pickF (EvB (t8 rfl rfl) (decide_eq_false (fun h => h hall))) (t0 rfl)) ?_
        refine DNew.nil ?_
        refine At.next ?_
        refine J.condF (EvB (t0 rfl) (decide_eq_false (fun h => h hnil))) ?_
        refine J.skip ?_
        refine At.blkN ?_
        refine At.next ?_
        refine J.live (K := [(16, _), (15, _), (14, _), (7, _), (8, _), (6, _)]) ⟨(lk23 rfl), (lk24 rfl), (lk25 rfl), (lk26 rfl), (lk27 rfl), (lk28 rfl), trivial⟩ ?_
        intro ρ30
        refine J.region ?_
        refine JL.rd (Rd.move (t0 rfl)) ?_
        refine JL.rd (Rd.add (t0 rfl) Ev.c (w64 (by omega) (by omega))) ?_
        refine JL.rd (Rd.assign (t0 rfl)) ?_
        refine JL.nil ?_
        refine At.again (i + 1) ?_ ?_ ⟨lk0.trans (by first | with_reducible rfl | (congr 1; omega) | (simp; done) | (simp [*]; done)), trivial⟩ ⟨(lk4 rfl), (lk5 rfl), (lk6 rfl), (lk7 rfl), (lk8 rfl), trivial⟩ (fun _ => Stars.sel (by repeat (first | exact Sel.nil | apply Sel.cons (by repeat (first | exact .here | apply Take.there)))))
        · omega
        · omega
    · intro hc22
      refine J.exit ?_
      refine At.nextX ?_
      refine At.loopX ?_
      refine At.blkX ?_
      refine At.next ?_
      refine J.seq ?_
      refine J.region ?_
      refine JL.rd (Rd.assign Ev.c) ?_
      refine JL.nil ?_
      refine At.next ?_
      refine J.ret ?_
      exact At.ret (()) (trivial) (ResV.one rfl (t0 rfl)) rfl (fun _ => Stars.sel (by repeat (first | exact Sel.nil | apply Sel.cons (by repeat (first | exact .here | apply Take.there)))))
end Go.Proofs.Ytfnoaohbjlnkgaa
