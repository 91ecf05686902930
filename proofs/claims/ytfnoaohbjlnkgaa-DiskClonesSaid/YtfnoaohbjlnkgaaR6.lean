/-
  Walks, printed by mk.py.
-/
import Derived.Test.YtfnoaohbjlnkgaaR5
import Derived.Test.YtfnoaohbjlnkgaaD2
import Derived.Test.YtfnoaohbjlnkgaaD12
namespace Go.Proofs.Ytfnoaohbjlnkgaa
attribute [local irreducible] J JL At Rd Ef DNew DCar DRun Then RetQ LoopQ


set_option maxRecDepth 100000 in
set_option maxHeartbeats 400000 in
theorem do_any (d : Nat) (r1 r2 : Option Addr) (k1 k2 : Nat) (D : Dk) (hwf : D.wf) (o : OpV) (hok : o.ok) (ho : D.ops < 1099511627776) (hp : D.pend.length < 1048576) :
    Fn Try.prog 29 [.pointer (some ⟨d, 0, none⟩), refV r1 k1 r2 k2 D, .agg (opC o).toArray] [dk d D, rowR r1 1 (durs D.n D.dur), rowR r2 2 (D.pend.map wcell), rowR o.ca 1 (b1s o.ch)] (X := Option Addr × Nat × Option Addr × Nat) (fun _ => True) (fun x => .tuple #[refV x.1 x.2.1 x.2.2.1 x.2.2.2 (doD D o), .bool true]) (fun x => [dk d (doD D o), rowR x.1 1 (durs (doD D o).n (doD D o).dur), rowR x.2.2.1 2 ((doD D o).pend.map wcell)]) := by
  refine Fn.mk' (n := 155) (l := [(0, .pointer (some ⟨d, 0, none⟩)), (1, refV r1 k1 r2 k2 D), (2, .agg (opC o).toArray)]) (fn := Try.f29) Try.func29 (by kernel_rfl) rfl rfl (by simp) rfl ?_
  intro h0 w0
  have hkl := o.kind.toNat_lt
  have ok1 := hok.cc
  have ok2 := hok.at1
  have ok3 := hok.at2
  have ok4 := hok.len
  have hlen := hwf.plen
  have hn2 := hwf.n2
  have hn1 := hwf.n1
  refine J.seq ?_
  refine J.region ?_
  refine JL.ef (Ef.box (t1 rfl rfl) rfl ?_)
  intro b1
  refine JL.ef (Ef.box (t3 rfl rfl) rfl ?_)
  intro b2
  refine JL.ef (Ef.alloc Try.zeroValue51 rfl ?_)
  intro b3
  refine JL.rd (Rd.assign Ev.c) ?_
  refine JL.nil ?_
  refine At.next ?_
  refine J.seq ?_
  refine J.region ?_
  refine JL.rd (Rd.assign Ev.c) ?_
  refine JL.nil ?_
  refine At.next ?_
  refine J.seq ?_
  refine J.region ?_
  refine JL.rd (Rd.assign Ev.c) ?_
  refine JL.nil ?_
  refine At.next ?_
  refine J.seq ?_
  refine J.seq ?_
  refine J.region ?_
  refine JL.rd ((by first | exact Rd.fld0 fld_58_0 (t4 rfl rfl) | exact Rd.fldz fld_58_0 (t4 rfl rfl))) ?_
  refine JL.rd (Rd.ldN Try.isAgg5 (t0 rfl) (by repeat (first | exact .own | exact .rd | apply Blk.there)) (by repeat (first | exact .zero | apply Nth.succ))) ?_
  refine JL.rd (Rd.rem (t0 rfl) Ev.c (by omega) (by omega)) ?_
  refine JL.nil ?_
  refine At.next ?_
  refine J.block ?_
  refine J.seq ?_
  refine J.region ?_
  refine JL.rd (Rd.eql (t0 rfl) Ev.c) ?_
  refine JL.rd (Rd.assign (t0 rfl)) ?_
  refine JL.nil ?_
  refine At.next ?_
  refine J.condD (t0 rfl) ?_ ?_
  · intro hc4
    have hk : o.kind.toNat % 8 = 0 := by omega
    have hD : doD D o = writeD D o.block (opB o.first) := by simp [doD, hk]
    refine J.seq ?_
    refine J.draw [⟨false, 0, 2⟩, ⟨false, 0, 2⟩, ⟨false, 0, 2⟩, ⟨false, 0, 0⟩, ⟨true, 0, 0⟩, ⟨true, 1, 1⟩, ⟨true, 2, 2⟩, ⟨false, 3, 3⟩] [4, 5, 6] mixed rfl ?_
    refine DRun.at [] [0, 1, 2, 3] rfl rfl ?_ ?_
    · exact .nil
    refine DNew.rd rfl (Rd.move (t11 rfl rfl)) ?_
    refine DNew.rd rfl ((by first | exact Rd.fld0 fld_58_1 (t10 rfl rfl) | exact Rd.fld fld_58_1 (t10 rfl rfl))) ?_
    refine DNew.rd rfl (Rd.ldN Try.isAgg3 (t0 rfl) (by repeat (first | exact .own | exact .rd | apply Blk.there)) (by repeat (first | exact .zero | apply Nth.succ))) ?_
    refine DNew.rd rfl (Rd.ldB Try.isAgg58 Try.sizeOf58 (t12 rfl rfl) (by repeat (first | exact .own | exact .rd | apply Blk.there)) (by first | rfl | assumption | simp_all)) ?_
    refine DNew.nil ?_
    refine DRun.ef rfl (Ef.call (.cons (t0 rfl) .nil) (opbytes_any o) (by repeat (first | exact Sel.nil | apply Sel.cons (by repeat (first | exact .here | apply Take.there)))) ?_)
    rintro - -
    simp only [List.cons_append, List.nil_append]
    refine DRun.at [0, 1, 2] [] rfl rfl ?_ ?_
    · refine DCar.rd rfl (lk4 rfl) (Rd.move (t16 rfl rfl)) ?_
      refine DCar.rd rfl (lk3 rfl) ((by first | exact Rd.fld0 fld_58_1 (t14 rfl rfl) | exact Rd.fld fld_58_1 (t14 rfl rfl))) ?_
      refine DCar.rd rfl (lk2 rfl) (Rd.ldN Try.isAgg3 (t3 rfl rfl) (by repeat (first | exact .own | exact .rd | apply Blk.there)) (by repeat (first | exact .zero | apply Nth.succ))) ?_
      exact .nil
    refine DNew.nil ?_
    refine DRun.ef rfl (Ef.ofStr Try.underlying9 Try.underlying28 Try.underlying5 (t0 rfl) (by first | (simp [maxLen]; done) | (simp [maxLen]; omega) | (simp only [maxLen]; omega)) ?_)
    intro b5 c6
    refine DRun.at [0, 1, 2] [] rfl rfl ?_ ?_
    · refine DCar.rd rfl (lk5 rfl) (Rd.move (t17 rfl rfl)) ?_
      refine DCar.rd rfl (lk4 rfl) ((by first | exact Rd.fld0 fld_58_1 (t15 rfl rfl) | exact Rd.fld fld_58_1 (t15 rfl rfl))) ?_
      refine DCar.rd rfl (lk3 rfl) (Rd.ldN Try.isAgg3 (t4 rfl rfl) (by repeat (first | exact .own | exact .rd | apply Blk.there)) (by repeat (first | exact .zero | apply Nth.succ))) ?_
      exact .nil
    refine DNew.nil ?_
    refine DRun.ef rfl (Ef.call (.cons (t5 rfl rfl) (.cons (t3 rfl rfl) (.cons (t0 rfl) .nil))) (write_any d D o.block _ _ (opB o.first) ho hp) (by repeat (first | exact Sel.nil | apply Sel.cons (by repeat (first | exact .here | apply Take.there)))) ?_)
    rintro - -
    simp only [List.cons_append, List.nil_append]
    refine DRun.end [] [7] rfl rfl ?_ ?_
    · exact .nil
    refine DNew.rd rfl (Rd.assign (t0 rfl)) ?_
    refine DNew.nil ?_
    refine At.next ?_
    refine J.draw [⟨false, 0, 1⟩, ⟨false, 0, 1⟩, ⟨false, 0, 1⟩, ⟨false, 0, 0⟩, ⟨true, 0, 0⟩, ⟨true, 1, 1⟩, ⟨false, 2, 2⟩, ⟨false, 2, 2⟩, ⟨false, 2, 3⟩, ⟨true, 2, 2⟩, ⟨false, 3, 3⟩] [4, 5, 9] mixed rfl ?_
    refine DRun.at [] [0, 1, 2, 3] rfl rfl ?_ ?_
    · exact .nil
    refine DNew.rd rfl (Rd.ldB Try.isAgg51 Try.sizeOf51 (t18 rfl rfl) (by repeat (first | exact .own | exact .rd | apply Blk.there)) (by first | rfl | assumption | simp_all)) ?_
    refine DNew.rd rfl ((by first | exact Rd.fld0 fld_58_1 (t18 rfl rfl) | exact Rd.fld fld_58_1 (t18 rfl rfl))) ?_
    refine DNew.rd rfl (Rd.ldN Try.isAgg3 (t0 rfl) (by repeat (first | exact .own | exact .rd | apply Blk.there)) (by repeat (first | exact .zero | apply Nth.succ))) ?_
    refine DNew.rd rfl (Rd.ldB Try.isAgg58 Try.sizeOf58 (t20 rfl rfl) (by repeat (first | exact .own | exact .rd | apply Blk.there)) (by first | rfl | assumption | simp_all)) ?_
    refine DNew.nil ?_
    refine DRun.ef rfl (Ef.call (.cons (t0 rfl) .nil) (opbytes_any o) (by repeat (first | exact Sel.nil | apply Sel.cons (by repeat (first | exact .here | apply Take.there)))) ?_)
    rintro - -
    simp only [List.cons_append, List.nil_append]
    refine DRun.at [0, 1, 2] [] rfl rfl ?_ ?_
    · refine DCar.rd rfl (lk4 rfl) (Rd.ldB Try.isAgg51 Try.sizeOf51 (t23 rfl rfl) (by repeat (first | exact .own | exact .rd | apply Blk.there)) (by first | rfl | assumption | simp_all)) ?_
      refine DCar.rd rfl (lk3 rfl) ((by first | exact Rd.fld0 fld_58_1 (t22 rfl rfl) | exact Rd.fld fld_58_1 (t22 rfl rfl))) ?_
      refine DCar.rd rfl (lk2 rfl) (Rd.ldN Try.isAgg3 (t3 rfl rfl) (by repeat (first | exact .own | exact .rd | apply Blk.there)) (by repeat (first | exact .zero | apply Nth.succ))) ?_
      exact .nil
    refine DNew.nil ?_
    refine DRun.ef rfl (Ef.call (.cons (t4 rfl rfl) (.cons (t2 rfl rfl) (.cons (t0 rfl) .nil))) (rwrite_any r1 r2 k1 k2 D hwf o.block (opB o.first) ho hp (by simp <;> omega)) (by repeat (first | exact Sel.nil | apply Sel.cons (by repeat (first | exact .here | apply Take.there)))) ?_)
    rintro ⟨x1, y1, x2, y2⟩ -
    simp only [List.cons_append, List.nil_append]
    refine DRun.at [] [6, 7, 8] rfl rfl ?_ ?_
    · exact .nil
    refine DNew.rd rfl (Rd.move (t0 rfl)) ?_
    refine DNew.rd rfl (Rd.extract (t0 rfl) (by repeat (first | exact .zero | apply Nth.succ))) ?_
    refine DNew.rd rfl (Rd.extract (t1 rfl rfl) (by repeat (first | exact .zero | apply Nth.succ))) ?_
    refine DNew.nil ?_
    refine DRun.ef0 rfl (Ef.stB Try.sizeOf51 (t27 rfl rfl) (t1 rfl rfl) (by repeat (first | exact .here | apply Rep.there)) (by repeat (first | exact .own | exact .rd | apply Blk.there)) (by first | rfl | assumption | simp_all) (by first | rfl | assumption | simp_all) (by first | exact bv_one _ | exact cons_one rfl (bv_one _) | (simp [Value.oneCell']; done) | (simp [Value.oneCell', str]; done)) (by decide) ?_)
    refine DRun.end [8] [10] rfl rfl ?_ ?_
    · refine DCar.rd rfl lk0 (Rd.extract (t2 rfl rfl) (by repeat (first | exact .zero | apply Nth.succ))) ?_
      exact .nil
    refine DNew.rd rfl (Rd.assign (t0 rfl)) ?_
    refine DNew.nil ?_
    refine At.blkN ?_
    refine At.next ?_
    refine J.seq ?_
    refine J.live (K := [(9, _), (8, _), (7, _), (6, _), (4, _)]) ⟨lk0, (lk10 rfl), (lk25 rfl), (lk26 rfl), (lk28 rfl), trivial⟩ ?_
    intro ρ7
    refine J.region ?_
    refine JL.rd (Rd.ldB Try.isAgg51 Try.sizeOf51 (t4 rfl rfl) (by repeat (first | exact .own | exact .rd | apply Blk.there)) (by first | rfl | assumption | simp_all)) ?_
    refine JL.rd (Rd.move (t2 rfl rfl)) ?_
    refine JL.rd (Rd.move (t2 rfl rfl)) ?_
    refine JL.rd (Rd.eql (t1 rfl rfl) (t0 rfl)) ?_
    refine JL.ef0 (Ef.stB Try.sizeOf51 (t7 rfl rfl) (t3 rfl rfl) (by repeat (first | exact .here | apply Rep.there)) (by repeat (first | exact .own | exact .rd | apply Blk.there)) (by first | rfl | assumption | simp_all) (by first | rfl | assumption | simp_all) (by first | exact bv_one _ | exact cons_one rfl (bv_one _) | (simp [Value.oneCell']; done) | (simp [Value.oneCell', str]; done)) (by decide) ?_)
    refine JL.rd (Rd.assign (t0 rfl)) ?_
    refine JL.nil ?_
    refine At.next ?_
    refine J.ret ?_
    exact At.ret ((x1, y1, x2, y2)) (trivial) (ResV.many (rs := [.cell 6 51, .tmp 7]) rfl (.agg Try.isAgg51 Try.sizeOf51 (t8 rfl rfl) (by repeat (first | exact .own | exact .rd | apply Blk.there)) (by first | rfl | assumption | simp_all) (.tmp (t0 rfl) .nil)) (by simp)) (by rw [hD]; simp [Dk.failed]) (fun _ st => by rw [hD]; exact Stars.sel (by repeat (first | exact Sel.nil | apply Sel.cons (by repeat (first | exact .here | apply Take.there)))) st)
  · intro hc4
    have nk0 : o.kind.toNat % 8 ≠ 0 := by omega
    refine J.seq ?_
    refine J.region ?_
    refine JL.rd (Rd.eql (t2 rfl rfl) Ev.c) ?_
    refine JL.rd (Rd.assign (t0 rfl)) ?_
    refine JL.nil ?_
    refine At.next ?_
    refine J.condD (t0 rfl) ?_ ?_
    · intro hc8
      have hk : o.kind.toNat % 8 = 1 := by omega
      have hD : doD D o = flushD D := by simp [doD, hk]
      refine J.seq ?_
      refine J.region ?_
      refine JL.rd (Rd.move (t13 rfl rfl)) ?_
      refine JL.ef (Ef.call (.cons (t0 rfl) .nil) (flush_any d D ho) (by repeat (first | exact Sel.nil | apply Sel.cons (by repeat (first | exact .here | apply Take.there)))) ?_)
      rintro - -
      simp only [List.cons_append, List.nil_append]
      refine JL.rd (Rd.assign (t0 rfl)) ?_
      refine JL.nil ?_
      refine At.next ?_
      refine J.region ?_
      refine JL.rd (Rd.ldB Try.isAgg51 Try.sizeOf51 (t15 rfl rfl) (by repeat (first | exact .own | exact .rd | apply Blk.there)) (by first | rfl | assumption | simp_all)) ?_
      refine JL.ef (Ef.call (.cons (t0 rfl) .nil) (rflush_any r1 r2 k1 k2 D hwf ho) (by repeat (first | exact Sel.nil | apply Sel.cons (by repeat (first | exact .here | apply Take.there)))) ?_)
      rintro ⟨x1, y1, x2, y2⟩ -
      simp only [List.cons_append, List.nil_append]
      refine JL.rd (Rd.move (t0 rfl)) ?_
      refine JL.rd (Rd.extract (t0 rfl) (by repeat (first | exact .zero | apply Nth.succ))) ?_
      refine JL.rd (Rd.extract (t1 rfl rfl) (by repeat (first | exact .zero | apply Nth.succ))) ?_
      refine JL.ef0 (Ef.stB Try.sizeOf51 (t20 rfl rfl) (t1 rfl rfl) (by repeat (first | exact .here | apply Rep.there)) (by repeat (first | exact .own | exact .rd | apply Blk.there)) (by first | rfl | assumption | simp_all) (by first | rfl | assumption | simp_all) (by first | exact bv_one _ | exact cons_one rfl (bv_one _) | (simp [Value.oneCell']; done) | (simp [Value.oneCell', str]; done)) (by decide) ?_)
      refine JL.rd (Rd.assign (t0 rfl)) ?_
      refine JL.nil ?_
      refine At.blkN ?_
      refine At.next ?_
      refine J.seq ?_
      refine J.region ?_
      refine JL.rd (Rd.ldB Try.isAgg51 Try.sizeOf51 (t21 rfl rfl) (by repeat (first | exact .own | exact .rd | apply Blk.there)) (by first | rfl | assumption | simp_all)) ?_
      refine JL.rd (Rd.move (t7 rfl rfl)) ?_
      refine JL.rd (Rd.move (t2 rfl rfl)) ?_
      refine JL.rd (Rd.eql (t1 rfl rfl) (t0 rfl)) ?_
      refine JL.ef0 (Ef.stB Try.sizeOf51 (t23 rfl rfl) (t3 rfl rfl) (by repeat (first | exact .here | apply Rep.there)) (by repeat (first | exact .own | exact .rd | apply Blk.there)) (by first | rfl | assumption | simp_all) (by first | rfl | assumption | simp_all) (by first | exact bv_one _ | exact cons_one rfl (bv_one _) | (simp [Value.oneCell']; done) | (simp [Value.oneCell', str]; done)) (by decide) ?_)
      refine JL.rd (Rd.assign (t0 rfl)) ?_
      refine JL.nil ?_
      refine At.next ?_
      refine J.ret ?_
      exact At.ret ((x1, y1, x2, y2)) (trivial) (ResV.many (rs := [.cell 6 51, .tmp 7]) rfl (.agg Try.isAgg51 Try.sizeOf51 (t24 rfl rfl) (by repeat (first | exact .own | exact .rd | apply Blk.there)) (by first | rfl | assumption | simp_all) (.tmp (t0 rfl) .nil)) (by simp)) (by rw [hD]; simp [Dk.failed]) (fun _ st => by rw [hD]; exact Stars.sel (by repeat (first | exact Sel.nil | apply Sel.cons (by repeat (first | exact .here | apply Take.there)))) st)
    · intro hc8
      have nk1 : o.kind.toNat % 8 ≠ 1 := by omega
      refine J.seq ?_
      refine J.region ?_
      refine JL.rd (Rd.eql (t4 rfl rfl) Ev.c) ?_
      refine JL.rd (Rd.assign (t0 rfl)) ?_
      refine JL.nil ?_
      refine At.next ?_
      refine J.condD (t0 rfl) ?_ ?_
      · intro hc9
        have hk : o.kind.toNat % 8 = 2 := by omega
        have hD : doD D o = D := by simp [doD, hk]
        refine J.seq ?_
        refine J.region ?_
        refine JL.rd (Rd.move (t15 rfl rfl)) ?_
        refine JL.rd ((by first | exact Rd.fld0 fld_58_1 (t14 rfl rfl) | exact Rd.fld fld_58_1 (t14 rfl rfl))) ?_
        refine JL.rd (Rd.ldN Try.isAgg3 (t0 rfl) (by repeat (first | exact .own | exact .rd | apply Blk.there)) (by repeat (first | exact .zero | apply Nth.succ))) ?_
        refine JL.ef (Ef.call (.cons (t2 rfl rfl) (.cons (t0 rfl) .nil)) (read_any d D o.block) (by repeat (first | exact Sel.nil | apply Sel.cons (by repeat (first | exact .here | apply Take.there)))) ?_)
        rintro ⟨ra, rc⟩ -
        simp only [List.cons_append, List.nil_append]
        refine JL.rd (Rd.move (t0 rfl)) ?_
        refine JL.rd (Rd.extract (t0 rfl) (by repeat (first | exact .zero | apply Nth.succ))) ?_
        refine JL.rd (Rd.extract (t1 rfl rfl) (by repeat (first | exact .zero | apply Nth.succ))) ?_
        refine JL.rd (Rd.assign (t1 rfl rfl)) ?_
        refine JL.rd (Rd.assign (t1 rfl rfl)) ?_
        refine JL.nil ?_
        refine At.next ?_
        refine J.seq ?_
        refine J.region ?_
        refine JL.rd (Rd.ldB Try.isAgg51 Try.sizeOf51 (t23 rfl rfl) (by repeat (first | exact .own | exact .rd | apply Blk.there)) (by first | rfl | assumption | simp_all)) ?_
        refine JL.rd ((by first | exact Rd.fld0 fld_58_1 (t23 rfl rfl) | exact Rd.fld fld_58_1 (t23 rfl rfl))) ?_
        refine JL.rd (Rd.ldN Try.isAgg3 (t0 rfl) (by repeat (first | exact .own | exact .rd | apply Blk.there)) (by repeat (first | exact .zero | apply Nth.succ))) ?_
        refine JL.ef (Ef.call (.cons (t2 rfl rfl) (.cons (t0 rfl) .nil)) (rread_any r1 r2 k1 k2 D hwf o.block) (by repeat (first | exact Sel.nil | apply Sel.cons (by repeat (first | exact .here | apply Take.there)))) ?_)
        rintro - -
        simp only [List.cons_append, List.nil_append]
        refine JL.rd (Rd.move (t0 rfl)) ?_
        refine JL.rd (Rd.extract (t0 rfl) (by repeat (first | exact .zero | apply Nth.succ))) ?_
        refine JL.rd (Rd.extract (t1 rfl rfl) (by repeat (first | exact .zero | apply Nth.succ))) ?_
        refine JL.rd (Rd.assign (t1 rfl rfl)) ?_
        refine JL.rd (Rd.assign (t1 rfl rfl)) ?_
        refine JL.nil ?_
        refine At.next ?_
        refine J.seq ?_
        refine J.live (K := [(13, _), (12, _), (11, _), (10, _), (9, _), (8, _), (7, _), (6, _), (4, _)]) ⟨lk0, (lk1 rfl), (lk9 rfl), (lk10 rfl), (lk27 rfl), (lk28 rfl), (lk29 rfl), (lk30 rfl), (lk32 rfl), trivial⟩ ?_
        intro ρ10
        refine J.region ?_
        refine JL.rd (Rd.ldB Try.isAgg51 Try.sizeOf51 (t8 rfl rfl) (by repeat (first | exact .own | exact .rd | apply Blk.there)) (by first | rfl | assumption | simp_all)) ?_
        refine JL.rd (Rd.move (t4 rfl rfl)) ?_
        refine JL.rd (Rd.byStr Try.underlying28 Try.underlying5 Try.underlying9 (t0 rfl) (by first | (apply SIn.bytes; (repeat (first | exact .here | apply Take.there)); done) | (apply SIn.rowR; (repeat (first | exact .here | apply Take.there)); done) | (apply hA; (repeat (first | exact .here | apply Take.there)); done)) (by first | (simp; done) | (simp; omega) | omega | (simp [*]; done))) ?_
        refine JL.rd (Rd.move (t4 rfl rfl)) ?_
        refine JL.rd (Rd.str_eql (t1 rfl rfl) (t0 rfl)) ?_
        refine JL.rd (Rd.move (t0 rfl)) ?_
        refine JL.rdG rfl (EvB (t0 rfl) (decide_eq_true rfl)) rfl (Rd.move (t8 rfl rfl)) ?_
        refine JL.rdG rfl (EvB (t1 rfl rfl) (decide_eq_true rfl)) rfl (Rd.move (t7 rfl rfl)) ?_
        refine JL.rdG rfl (EvB (t2 rfl rfl) (decide_eq_true rfl)) rfl (Rd.eql (t1 rfl rfl) (t0 rfl)) ?_
        refine JL.rd (Rd.pickT (EvB (t3 rfl rfl) (decide_eq_true rfl)) (t0 rfl)) ?_
        refine JL.ef0 (Ef.stB Try.sizeOf51 (t17 rfl rfl) (t9 rfl rfl) (by repeat (first | exact .here | apply Rep.there)) (by repeat (first | exact .own | exact .rd | apply Blk.there)) (by first | rfl | assumption | simp_all) (by first | rfl | assumption | simp_all) (by first | exact bv_one _ | exact cons_one rfl (bv_one _) | (simp [Value.oneCell']; done) | (simp [Value.oneCell', str]; done)) (by decide) ?_)
        refine JL.rd (Rd.assign (t0 rfl)) ?_
        refine JL.nil ?_
        refine At.next ?_
        refine J.ret ?_
        refine At.blkR ?_
        refine At.nextR ?_
        exact At.ret ((r1, k1, r2, k2)) (trivial) (ResV.many (rs := [.cell 6 51, .tmp 7]) rfl (.agg Try.isAgg51 Try.sizeOf51 (t18 rfl rfl) (by repeat (first | exact .own | exact .rd | apply Blk.there)) (by first | rfl | assumption | simp_all) (.tmp (t0 rfl) .nil)) (by simp)) (by rw [hD]; simp [Dk.failed]) (fun _ st => by rw [hD]; exact Stars.sel (by repeat (first | exact Sel.nil | apply Sel.cons (by repeat (first | exact .here | apply Take.there)))) st)
      · intro hc9
        have nk2 : o.kind.toNat % 8 ≠ 2 := by omega
        refine J.seq ?_
        refine J.region ?_
        refine JL.rd (Rd.eql (t6 rfl rfl) Ev.c) ?_
        refine JL.rd (Rd.assign (t0 rfl)) ?_
        refine JL.nil ?_
        refine At.next ?_
        refine J.condD (t0 rfl) ?_ ?_
        · intro hc11
          have hk : o.kind.toNat % 8 = 3 := by omega
          have hD : doD D o = D.failed := by simp [doD, hk]
          refine J.seq ?_
          refine J.region ?_
          refine JL.rd (Rd.move (t17 rfl rfl)) ?_
          refine JL.ef (Ef.call (.cons (t0 rfl) .nil) (fail_any d D) (by repeat (first | exact Sel.nil | apply Sel.cons (by repeat (first | exact .here | apply Take.there)))) ?_)
          rintro - -
          simp only [List.cons_append, List.nil_append]
          refine JL.nil ?_
          refine At.next ?_
          refine J.region ?_
          refine JL.rd ((by first | exact Rd.fld0 fld_51_3 (t18 rfl rfl) | exact Rd.fld fld_51_3 (t18 rfl rfl))) ?_
          refine JL.ef0 (Ef.st Try.sizeOf4 (t0 rfl) Ev.c rfl (by repeat (first | exact .here | apply Rep.there)) (by repeat (first | exact .own | exact .rd | apply Blk.there)) (by repeat (first | exact .zero | apply SetN.succ)) (by first | rfl | simp) ?_)
          refine JL.nil ?_
          refine At.blkN ?_
          refine At.next ?_
          refine J.seq ?_
          refine J.region ?_
          refine JL.rd (Rd.ldB Try.isAgg51 Try.sizeOf51 (t19 rfl rfl) (by repeat (first | exact .own | exact .rd | apply Blk.there)) (by first | rfl | assumption | simp_all)) ?_
          refine JL.rd (Rd.move (t16 rfl rfl)) ?_
          refine JL.rd (Rd.move (t16 rfl rfl)) ?_
          refine JL.rd (Rd.eql (t1 rfl rfl) (t0 rfl)) ?_
          refine JL.ef0 (Ef.stB Try.sizeOf51 (t21 rfl rfl) (t3 rfl rfl) (by repeat (first | exact .here | apply Rep.there)) (by repeat (first | exact .own | exact .rd | apply Blk.there)) (by first | rfl | assumption | simp_all) (by first | rfl | assumption | simp_all) (by first | exact bv_one _ | exact cons_one rfl (bv_one _) | (simp [Value.oneCell']; done) | (simp [Value.oneCell', str]; done)) (by decide) ?_)
          refine JL.rd (Rd.assign (t0 rfl)) ?_
          refine JL.nil ?_
          refine At.next ?_
          refine J.ret ?_
          exact At.ret ((r1, k1, r2, k2)) (trivial) (ResV.many (rs := [.cell 6 51, .tmp 7]) rfl (.agg Try.isAgg51 Try.sizeOf51 (t22 rfl rfl) (by repeat (first | exact .own | exact .rd | apply Blk.there)) (by first | rfl | assumption | simp_all) (.tmp (t0 rfl) .nil)) (by simp)) (by rw [hD]; simp [Dk.failed]) (fun _ st => by rw [hD]; exact Stars.sel (by repeat (first | exact Sel.nil | apply Sel.cons (by repeat (first | exact .here | apply Take.there)))) st)
        · intro hc11
          have nk3 : o.kind.toNat % 8 ≠ 3 := by omega
          refine J.seq ?_
          refine J.region ?_
          refine JL.rd (Rd.eql (t8 rfl rfl) Ev.c) ?_
          refine JL.rd (Rd.assign (t0 rfl)) ?_
          refine JL.nil ?_
          refine At.next ?_
          refine J.condD (t0 rfl) ?_ ?_
          · intro hc12
            have hk : o.kind.toNat % 8 = 4 := by omega
            have hD : doD D o = backD D (o.ch.take 60) := by simp [doD, hk]
            refine J.seq ?_
            refine J.weak (fun _ st => rowR_b60 60 (Stars.sel (pre := [rowR o.ca 1 (b1s o.ch), dk d D, rowR r1 1 (durs D.n D.dur), rowR r2 2 (D.pend.map wcell), pts b1 (.cells [Value.slice r1 D.n k1, .slice r2 D.pend.length k2, .int .i64 D.lim, .bool D.down, .int .i64 D.ops].toArray 51), pts b2 (.cells (opC o).toArray 58), pts b3 (.cells [Value.slice none 0 0, .slice none 0 0, .int .i64 0, .bool false, .int .i64 0].toArray 51)]) (by repeat (first | exact Sel.nil | apply Sel.cons (by repeat (first | exact .here | apply Take.there)))) st)) ?_
            refine J.region ?_
            refine JL.rd ((by first | exact Rd.fld0 fld_58_4 (t17 rfl rfl) | exact Rd.fld fld_58_4 (t17 rfl rfl))) ?_
            refine JL.rd (Rd.ldN Try.isAgg28 (t0 rfl) (by repeat (first | exact .own | exact .rd | apply Blk.there)) (by repeat (first | exact .zero | apply Nth.succ))) ?_
            refine JL.rd ((by first | exact Rd.fld0 fld_58_4 (t19 rfl rfl) | exact Rd.fld fld_58_4 (t19 rfl rfl))) ?_
            refine JL.rd (Rd.ldN Try.isAgg28 (t0 rfl) (by repeat (first | exact .own | exact .rd | apply Blk.there)) (by repeat (first | exact .zero | apply Nth.succ))) ?_
            refine JL.rd (Rd.len Try.runUnderlying28 (t0 rfl)) ?_
            refine JL.rd (Rd.min2 (t0 rfl) Ev.c) ?_
            refine JL.rd (Rd.slTo Try.runUnderlying28 Try.sizeOf5 (t4 rfl rfl) (t0 rfl) (by omega) (by omega)) ?_
            refine JL.rd (Rd.assign (t0 rfl)) ?_
            refine JL.nil ?_
            refine At.next ?_
            refine J.seq ?_
            refine J.live (K := [(14, _), (9, _), (8, _), (7, _), (6, _), (4, _), (0, _)]) ⟨lk0, (lk21 rfl), (lk22 rfl), (lk23 rfl), (lk24 rfl), (lk26 rfl), (lk27 rfl), trivial⟩ ?_
            intro ρ13
            refine J.region ?_
            refine JL.rd (Rd.move (t6 rfl rfl)) ?_
            refine JL.rd (Rd.move (t1 rfl rfl)) ?_
            refine JL.ef (Ef.call (.cons (t1 rfl rfl) (.cons (t0 rfl) .nil)) (restart_any d D o.ca _ _ (o.ch.take 60) (by simp; omega) (rowR o.ca 1 (b1s (o.ch.take 60))) (fun t => SIn.rowR t)) (by repeat (first | exact Sel.nil | apply Sel.cons (by repeat (first | exact .here | apply Take.there)))) ?_)
            rintro - -
            simp only [List.cons_append, List.nil_append]
            refine JL.rd (Rd.assign (t0 rfl)) ?_
            refine JL.nil ?_
            refine At.next ?_
            refine J.region ?_
            refine JL.rd (Rd.ldB Try.isAgg51 Try.sizeOf51 (t9 rfl rfl) (by repeat (first | exact .own | exact .rd | apply Blk.there)) (by first | rfl | assumption | simp_all)) ?_
            refine JL.rd (Rd.move (t5 rfl rfl)) ?_
            refine JL.ef (Ef.call (.cons (t1 rfl rfl) (.cons (t0 rfl) .nil)) (rrestart_any r1 r2 k1 k2 D hwf o.ca _ _ (o.ch.take 60) (by simp; omega) (rowR o.ca 1 (b1s (o.ch.take 60))) (fun t => SIn.rowR t)) (by repeat (first | exact Sel.nil | apply Sel.cons (by repeat (first | exact .here | apply Take.there)))) ?_)
            rintro ⟨x1, y1, x2, y2⟩ -
            simp only [List.cons_append, List.nil_append]
            refine JL.rd (Rd.move (t0 rfl)) ?_
            refine JL.rd (Rd.extract (t0 rfl) (by repeat (first | exact .zero | apply Nth.succ))) ?_
            refine JL.rd (Rd.extract (t1 rfl rfl) (by repeat (first | exact .zero | apply Nth.succ))) ?_
            refine JL.ef0 (Ef.stB Try.sizeOf51 (t15 rfl rfl) (t1 rfl rfl) (by repeat (first | exact .here | apply Rep.there)) (by repeat (first | exact .own | exact .rd | apply Blk.there)) (by first | rfl | assumption | simp_all) (by first | rfl | assumption | simp_all) (by first | exact bv_one _ | exact cons_one rfl (bv_one _) | (simp [Value.oneCell']; done) | (simp [Value.oneCell', str]; done)) (by decide) ?_)
            refine JL.rd (Rd.assign (t0 rfl)) ?_
            refine JL.nil ?_
            refine At.blkN ?_
            refine At.next ?_
            refine J.seq ?_
            refine J.region ?_
            refine JL.rd (Rd.ldB Try.isAgg51 Try.sizeOf51 (t16 rfl rfl) (by repeat (first | exact .own | exact .rd | apply Blk.there)) (by first | rfl | assumption | simp_all)) ?_
            refine JL.rd (Rd.move (t8 rfl rfl)) ?_
            refine JL.rd (Rd.move (t2 rfl rfl)) ?_
            refine JL.rd (Rd.eql (t1 rfl rfl) (t0 rfl)) ?_
            refine JL.ef0 (Ef.stB Try.sizeOf51 (t19 rfl rfl) (t3 rfl rfl) (by repeat (first | exact .here | apply Rep.there)) (by repeat (first | exact .own | exact .rd | apply Blk.there)) (by first | rfl | assumption | simp_all) (by first | rfl | assumption | simp_all) (by first | exact bv_one _ | exact cons_one rfl (bv_one _) | (simp [Value.oneCell']; done) | (simp [Value.oneCell', str]; done)) (by decide) ?_)
            refine JL.rd (Rd.assign (t0 rfl)) ?_
            refine JL.nil ?_
            refine At.next ?_
            refine J.ret ?_
            exact At.ret ((x1, y1, x2, y2)) (trivial) (ResV.many (rs := [.cell 6 51, .tmp 7]) rfl (.agg Try.isAgg51 Try.sizeOf51 (t20 rfl rfl) (by repeat (first | exact .own | exact .rd | apply Blk.there)) (by first | rfl | assumption | simp_all) (.tmp (t0 rfl) .nil)) (by simp)) (by rw [hD]; simp [Dk.failed]) (fun _ st => by rw [hD]; exact Stars.sel (by repeat (first | exact Sel.nil | apply Sel.cons (by repeat (first | exact .here | apply Take.there)))) st)
          · intro hc12
            have nk4 : o.kind.toNat % 8 ≠ 4 := by omega
            refine J.seq ?_
            refine J.region ?_
            refine JL.rd (Rd.eql (t10 rfl rfl) Ev.c) ?_
            refine JL.rd (Rd.assign (t0 rfl)) ?_
            refine JL.nil ?_
            refine At.next ?_
            refine J.condD (t0 rfl) ?_ ?_
            · intro hc14
              have hk : o.kind.toNat % 8 = 5 := by omega
              have hD : doD D o = { D with lim := max o.at_ (-1) } := by simp [doD, hk]
              refine J.seq ?_
              refine J.region ?_
              refine JL.rd (Rd.move (t21 rfl rfl)) ?_
              refine JL.rd ((by first | exact Rd.fld0 fld_58_2 (t20 rfl rfl) | exact Rd.fld fld_58_2 (t20 rfl rfl))) ?_
              refine JL.rd (Rd.ldN Try.isAgg3 (t0 rfl) (by repeat (first | exact .own | exact .rd | apply Blk.there)) (by repeat (first | exact .zero | apply Nth.succ))) ?_
              refine JL.ef (Ef.call (.cons (t2 rfl rfl) (.cons (t0 rfl) .nil)) (setlimit_any d D o.at_ ok3) (by repeat (first | exact Sel.nil | apply Sel.cons (by repeat (first | exact .here | apply Take.there)))) ?_)
              rintro - -
              simp only [List.cons_append, List.nil_append]
              refine JL.nil ?_
              refine At.next ?_
              refine J.region ?_
              refine JL.rd ((by first | exact Rd.fld0 fld_58_2 (t23 rfl rfl) | exact Rd.fld fld_58_2 (t23 rfl rfl))) ?_
              refine JL.rd (Rd.ldN Try.isAgg3 (t0 rfl) (by repeat (first | exact .own | exact .rd | apply Blk.there)) (by repeat (first | exact .zero | apply Nth.succ))) ?_
              refine JL.rd (Rd.max2 (t0 rfl) Ev.c) ?_
              refine JL.rd ((by first | exact Rd.fld0 fld_51_2 (t27 rfl rfl) | exact Rd.fld fld_51_2 (t27 rfl rfl))) ?_
              refine JL.ef0 (Ef.st Try.sizeOf3 (t0 rfl) (t1 rfl rfl) rfl (by repeat (first | exact .here | apply Rep.there)) (by repeat (first | exact .own | exact .rd | apply Blk.there)) (by repeat (first | exact .zero | apply SetN.succ)) (by first | rfl | simp) ?_)
              refine JL.nil ?_
              refine At.blkN ?_
              refine At.next ?_
              refine J.seq ?_
              refine J.live (K := [(9, _), (8, _), (7, _), (6, _), (4, _)]) ⟨(lk23 rfl), (lk24 rfl), (lk25 rfl), (lk26 rfl), (lk28 rfl), trivial⟩ ?_
              intro ρ15
              refine J.region ?_
              refine JL.rd (Rd.ldB Try.isAgg51 Try.sizeOf51 (t4 rfl rfl) (by repeat (first | exact .own | exact .rd | apply Blk.there)) (by first | rfl | assumption | simp_all)) ?_
              refine JL.rd (Rd.move (t2 rfl rfl)) ?_
              refine JL.rd (Rd.move (t2 rfl rfl)) ?_
              refine JL.rd (Rd.eql (t1 rfl rfl) (t0 rfl)) ?_
              refine JL.ef0 (Ef.stB Try.sizeOf51 (t7 rfl rfl) (t3 rfl rfl) (by repeat (first | exact .here | apply Rep.there)) (by repeat (first | exact .own | exact .rd | apply Blk.there)) (by first | rfl | assumption | simp_all) (by first | rfl | assumption | simp_all) (by first | exact bv_one _ | exact cons_one rfl (bv_one _) | (simp [Value.oneCell']; done) | (simp [Value.oneCell', str]; done)) (by decide) ?_)
              refine JL.rd (Rd.assign (t0 rfl)) ?_
              refine JL.nil ?_
              refine At.next ?_
              refine J.ret ?_
              exact At.ret ((r1, k1, r2, k2)) (trivial) (ResV.many (rs := [.cell 6 51, .tmp 7]) rfl (.agg Try.isAgg51 Try.sizeOf51 (t8 rfl rfl) (by repeat (first | exact .own | exact .rd | apply Blk.there)) (by first | rfl | assumption | simp_all) (.tmp (t0 rfl) .nil)) (by simp)) (by rw [hD]; simp [Dk.failed]) (fun _ st => by rw [hD]; exact Stars.sel (by repeat (first | exact Sel.nil | apply Sel.cons (by repeat (first | exact .here | apply Take.there)))) st)
            · intro hc14
              have nk5 : o.kind.toNat % 8 ≠ 5 := by omega
              refine J.seq ?_
              refine J.region ?_
              refine JL.rd (Rd.eql (t12 rfl rfl) Ev.c) ?_
              refine JL.rd (Rd.assign (t0 rfl)) ?_
              refine JL.nil ?_
              refine At.next ?_
              refine J.condD (t0 rfl) ?_ ?_
              · intro hc16
                have hk : o.kind.toNat % 8 = 6 := by omega
                have hD : doD D o = damD D o.block o.at_ o.first := by simp [doD, hk]
                refine J.seq ?_
                refine J.region ?_
                refine JL.rd (Rd.move (t23 rfl rfl)) ?_
                refine JL.rd ((by first | exact Rd.fld0 fld_58_1 (t22 rfl rfl) | exact Rd.fld fld_58_1 (t22 rfl rfl))) ?_
                refine JL.rd (Rd.ldN Try.isAgg3 (t0 rfl) (by repeat (first | exact .own | exact .rd | apply Blk.there)) (by repeat (first | exact .zero | apply Nth.succ))) ?_
                refine JL.rd ((by first | exact Rd.fld0 fld_58_2 (t24 rfl rfl) | exact Rd.fld fld_58_2 (t24 rfl rfl))) ?_
                refine JL.rd (Rd.ldN Try.isAgg3 (t0 rfl) (by repeat (first | exact .own | exact .rd | apply Blk.there)) (by repeat (first | exact .zero | apply Nth.succ))) ?_
                refine JL.rd ((by first | exact Rd.fld0 fld_58_3 (t26 rfl rfl) | exact Rd.fld fld_58_3 (t26 rfl rfl))) ?_
                refine JL.rd (Rd.ldN Try.isAgg5 (t0 rfl) (by repeat (first | exact .own | exact .rd | apply Blk.there)) (by repeat (first | exact .zero | apply Nth.succ))) ?_
                refine JL.ef (Ef.call (.cons (t6 rfl rfl) (.cons (t4 rfl rfl) (.cons (t2 rfl rfl) (.cons (t0 rfl) .nil)))) (damage_any d D o.block o.at_ o.first) (by repeat (first | exact Sel.nil | apply Sel.cons (by repeat (first | exact .here | apply Take.there)))) ?_)
                rintro - -
                simp only [List.cons_append, List.nil_append]
                refine JL.rd (Rd.assign (t0 rfl)) ?_
                refine JL.nil ?_
                refine At.next ?_
                refine J.live (K := [(8, _), (9, _), (7, _), (6, _), (5, _), (4, _)]) ⟨lk0, (lk26 rfl), (lk28 rfl), (lk29 rfl), (lk30 rfl), (lk31 rfl), trivial⟩ ?_
                intro ρ17
                refine J.region ?_
                refine JL.rd (Rd.ldB Try.isAgg51 Try.sizeOf51 (t5 rfl rfl) (by repeat (first | exact .own | exact .rd | apply Blk.there)) (by first | rfl | assumption | simp_all)) ?_
                refine JL.rd ((by first | exact Rd.fld0 fld_58_1 (t5 rfl rfl) | exact Rd.fld fld_58_1 (t5 rfl rfl))) ?_
                refine JL.rd (Rd.ldN Try.isAgg3 (t0 rfl) (by repeat (first | exact .own | exact .rd | apply Blk.there)) (by repeat (first | exact .zero | apply Nth.succ))) ?_
                refine JL.rd ((by first | exact Rd.fld0 fld_58_2 (t7 rfl rfl) | exact Rd.fld fld_58_2 (t7 rfl rfl))) ?_
                refine JL.rd (Rd.ldN Try.isAgg3 (t0 rfl) (by repeat (first | exact .own | exact .rd | apply Blk.there)) (by repeat (first | exact .zero | apply Nth.succ))) ?_
                refine JL.rd ((by first | exact Rd.fld0 fld_58_3 (t9 rfl rfl) | exact Rd.fld fld_58_3 (t9 rfl rfl))) ?_
                refine JL.rd (Rd.ldN Try.isAgg5 (t0 rfl) (by repeat (first | exact .own | exact .rd | apply Blk.there)) (by repeat (first | exact .zero | apply Nth.succ))) ?_
                refine JL.ef (Ef.call (.cons (t6 rfl rfl) (.cons (t4 rfl rfl) (.cons (t2 rfl rfl) (.cons (t0 rfl) .nil)))) (rdamage_any r1 r2 k1 k2 D hwf o.block o.at_ o.first) (by repeat (first | exact Sel.nil | apply Sel.cons (by repeat (first | exact .here | apply Take.there)))) ?_)
                rintro ⟨x1, y1, x2, y2⟩ -
                simp only [List.cons_append, List.nil_append]
                refine JL.rd (Rd.move (t0 rfl)) ?_
                refine JL.rd (Rd.extract (t0 rfl) (by repeat (first | exact .zero | apply Nth.succ))) ?_
                refine JL.rd (Rd.extract (t1 rfl rfl) (by repeat (first | exact .zero | apply Nth.succ))) ?_
                refine JL.ef0 (Ef.stB Try.sizeOf51 (t16 rfl rfl) (t1 rfl rfl) (by repeat (first | exact .here | apply Rep.there)) (by repeat (first | exact .own | exact .rd | apply Blk.there)) (by first | rfl | assumption | simp_all) (by first | rfl | assumption | simp_all) (by first | exact bv_one _ | exact cons_one rfl (bv_one _) | (simp [Value.oneCell']; done) | (simp [Value.oneCell', str]; done)) (by decide) ?_)
                refine JL.rd (Rd.assign (t0 rfl)) ?_
                refine JL.nil ?_
                refine At.blkN ?_
                refine At.next ?_
                refine J.seq ?_
                refine J.region ?_
                refine JL.rd (Rd.ldB Try.isAgg51 Try.sizeOf51 (t17 rfl rfl) (by repeat (first | exact .own | exact .rd | apply Blk.there)) (by first | rfl | assumption | simp_all)) ?_
                refine JL.rd (Rd.move (t13 rfl rfl)) ?_
                refine JL.rd (Rd.move (t2 rfl rfl)) ?_
                refine JL.rd (Rd.eql (t1 rfl rfl) (t0 rfl)) ?_
                refine JL.ef0 (Ef.stB Try.sizeOf51 (t19 rfl rfl) (t3 rfl rfl) (by repeat (first | exact .here | apply Rep.there)) (by repeat (first | exact .own | exact .rd | apply Blk.there)) (by first | rfl | assumption | simp_all) (by first | rfl | assumption | simp_all) (by first | exact bv_one _ | exact cons_one rfl (bv_one _) | (simp [Value.oneCell']; done) | (simp [Value.oneCell', str]; done)) (by decide) ?_)
                refine JL.rd (Rd.assign (t0 rfl)) ?_
                refine JL.nil ?_
                refine At.next ?_
                refine J.ret ?_
                exact At.ret ((x1, y1, x2, y2)) (trivial) (ResV.many (rs := [.cell 6 51, .tmp 7]) rfl (.agg Try.isAgg51 Try.sizeOf51 (t20 rfl rfl) (by repeat (first | exact .own | exact .rd | apply Blk.there)) (by first | rfl | assumption | simp_all) (.tmp (t0 rfl) .nil)) (by simp)) (by rw [hD]; simp [Dk.failed]) (fun _ st => by rw [hD]; exact Stars.sel (by repeat (first | exact Sel.nil | apply Sel.cons (by repeat (first | exact .here | apply Take.there)))) st)
              · intro hc16
                have nk6 : o.kind.toNat % 8 ≠ 6 := by omega
                have hD : doD D o = writeD D o.block ((opB o.first ++ opB o.first).take (atU o.at_)) := by simp [doD, nk0, nk1, nk2, nk3, nk4, nk5, nk6]
                have hau := atU_eq o.at_
                have hal := atU_lt o.at_
                refine J.seq ?_
                refine J.draw [⟨false, 0, 0⟩, ⟨true, 0, 0⟩, ⟨false, 0, 1⟩, ⟨true, 1, 1⟩, ⟨false, 2, 2⟩, ⟨false, 0, 2⟩, ⟨false, 0, 2⟩, ⟨false, 0, 2⟩, ⟨false, 0, 2⟩, ⟨false, 0, 2⟩, ⟨false, 2, 2⟩, ⟨false, 2, 2⟩] [1, 3] mixed rfl ?_
                refine DRun.at [] [0, 2, 5, 6, 7, 8, 9] rfl rfl ?_ ?_
                · exact .nil
                refine DNew.rd rfl (Rd.ldB Try.isAgg58 Try.sizeOf58 (t21 rfl rfl) (by repeat (first | exact .own | exact .rd | apply Blk.there)) (by first | rfl | assumption | simp_all)) ?_
                refine DNew.rd rfl (Rd.ldB Try.isAgg58 Try.sizeOf58 (t22 rfl rfl) (by repeat (first | exact .own | exact .rd | apply Blk.there)) (by first | rfl | assumption | simp_all)) ?_
                refine DNew.rd rfl ((by first | exact Rd.fld0 fld_58_2 (t23 rfl rfl) | exact Rd.fld fld_58_2 (t23 rfl rfl))) ?_
                refine DNew.rd rfl (Rd.ldN Try.isAgg3 (t0 rfl) (by repeat (first | exact .own | exact .rd | apply Blk.there)) (by repeat (first | exact .zero | apply Nth.succ))) ?_
                refine DNew.rd rfl (Rd.convU64 (t0 rfl) (fun w => ⟨_, Try.runUnderlying3 w⟩) Try.runUnderlying100) ?_
                refine DNew.rd rfl (Rd.rem (t0 rfl) Ev.c (by omega) (by omega)) ?_
                refine DNew.rd rfl (Rd.conv (t0 rfl) (fun w => ⟨_, Try.runUnderlying100 w⟩) Try.runUnderlying3 (w64 (by omega) (by omega))) ?_
                refine DNew.nil ?_
                refine DRun.ef rfl (Ef.call (.cons (t6 rfl rfl) .nil) (opbytes_any o) (by repeat (first | exact Sel.nil | apply Sel.cons (by repeat (first | exact .here | apply Take.there)))) ?_)
                rintro - -
                simp only [List.cons_append, List.nil_append]
                refine DRun.at [2, 5, 6, 7, 8, 9] [] rfl rfl ?_ ?_
                · refine DCar.rd rfl (lk6 rfl) (Rd.ldB Try.isAgg58 Try.sizeOf58 (t29 rfl rfl) (by repeat (first | exact .own | exact .rd | apply Blk.there)) (by first | rfl | assumption | simp_all)) ?_
                  refine DCar.rd rfl (lk5 rfl) ((by first | exact Rd.fld0 fld_58_2 (t29 rfl rfl) | exact Rd.fld fld_58_2 (t29 rfl rfl))) ?_
                  refine DCar.rd rfl (lk4 rfl) (Rd.ldN Try.isAgg3 (t5 rfl rfl) (by repeat (first | exact .own | exact .rd | apply Blk.there)) (by repeat (first | exact .zero | apply Nth.succ))) ?_
                  refine DCar.rd rfl (lk3 rfl) (Rd.convU64 (t4 rfl rfl) (fun w => ⟨_, Try.runUnderlying3 w⟩) Try.runUnderlying100) ?_
                  refine DCar.rd rfl (lk2 rfl) (Rd.rem (t3 rfl rfl) Ev.c (by omega) (by omega)) ?_
                  refine DCar.rd rfl (lk1 rfl) (Rd.conv (t2 rfl rfl) (fun w => ⟨_, Try.runUnderlying100 w⟩) Try.runUnderlying3 (w64 (by omega) (by omega))) ?_
                  exact .nil
                refine DNew.nil ?_
                refine DRun.ef rfl (Ef.call (.cons (t6 rfl rfl) .nil) (opbytes_any o) (by repeat (first | exact Sel.nil | apply Sel.cons (by repeat (first | exact .here | apply Take.there)))) ?_)
                rintro - -
                simp only [List.cons_append, List.nil_append]
                refine DRun.end [5, 6, 7, 8, 9] [4, 10, 11] rfl rfl ?_ ?_
                · refine DCar.rd rfl (lk6 rfl) ((by first | exact Rd.fld0 fld_58_2 (t30 rfl rfl) | exact Rd.fld fld_58_2 (t30 rfl rfl))) ?_
                  refine DCar.rd rfl (lk5 rfl) (Rd.ldN Try.isAgg3 (t6 rfl rfl) (by repeat (first | exact .own | exact .rd | apply Blk.there)) (by repeat (first | exact .zero | apply Nth.succ))) ?_
                  refine DCar.rd rfl (lk4 rfl) (Rd.convU64 (t5 rfl rfl) (fun w => ⟨_, Try.runUnderlying3 w⟩) Try.runUnderlying100) ?_
                  refine DCar.rd rfl (lk3 rfl) (Rd.rem (t4 rfl rfl) Ev.c (by omega) (by omega)) ?_
                  refine DCar.rd rfl (lk2 rfl) (Rd.conv (t3 rfl rfl) (fun w => ⟨_, Try.runUnderlying100 w⟩) Try.runUnderlying3 (w64 (by omega) (by omega))) ?_
                  exact .nil
                refine DNew.rd rfl (Rd.str_add (t1 rfl rfl) (t0 rfl) (by first | (simp; done) | (simp; omega) | omega | (simp [*]; done))) ?_
                refine DNew.rd rfl (Rd.strTo Try.runUnderlying9 (t0 rfl) (t3 rfl rfl) (by first | (simp; done) | (simp; omega) | omega | (simp [*]; done)) (by first | (simp; done) | (simp; omega) | omega | (simp [*]; done))) ?_
                rw [hau]
                refine DNew.rd rfl (Rd.assign (t0 rfl)) ?_
                refine DNew.nil ?_
                refine At.next ?_
                refine J.seq ?_
                refine J.live (K := [(15, _), (9, _), (8, _), (7, _), (6, _), (5, _), (4, _), (0, _)]) ⟨lk0, (lk29 rfl), (lk30 rfl), (lk31 rfl), (lk32 rfl), (lk33 rfl), (lk34 rfl), (lk35 rfl), trivial⟩ ?_
                intro ρ18
                refine J.region ?_
                refine JL.rd (Rd.move (t7 rfl rfl)) ?_
                refine JL.rd ((by first | exact Rd.fld0 fld_58_1 (t6 rfl rfl) | exact Rd.fld fld_58_1 (t6 rfl rfl))) ?_
                refine JL.rd (Rd.ldN Try.isAgg3 (t0 rfl) (by repeat (first | exact .own | exact .rd | apply Blk.there)) (by repeat (first | exact .zero | apply Nth.succ))) ?_
                refine JL.rd (Rd.move (t3 rfl rfl)) ?_
                refine JL.ef (Ef.ofStr Try.underlying9 Try.underlying28 Try.underlying5 (t0 rfl) (by first | (simp [maxLen]; done) | (simp [maxLen]; omega) | (simp only [maxLen]; omega)) ?_)
                intro b19 c20
                refine JL.ef (Ef.call (.cons (t4 rfl rfl) (.cons (t2 rfl rfl) (.cons (t0 rfl) .nil))) (write_any d D o.block _ _ ((opB o.first ++ opB o.first).take (atU o.at_)) ho hp) (by repeat (first | exact Sel.nil | apply Sel.cons (by repeat (first | exact .here | apply Take.there)))) ?_)
                rintro - -
                simp only [List.cons_append, List.nil_append]
                refine JL.rd (Rd.assign (t0 rfl)) ?_
                refine JL.nil ?_
                refine At.next ?_
                refine J.region ?_
                refine JL.rd (Rd.ldB Try.isAgg51 Try.sizeOf51 (t13 rfl rfl) (by repeat (first | exact .own | exact .rd | apply Blk.there)) (by first | rfl | assumption | simp_all)) ?_
                refine JL.rd ((by first | exact Rd.fld0 fld_58_1 (t13 rfl rfl) | exact Rd.fld fld_58_1 (t13 rfl rfl))) ?_
                refine JL.rd (Rd.ldN Try.isAgg3 (t0 rfl) (by repeat (first | exact .own | exact .rd | apply Blk.there)) (by repeat (first | exact .zero | apply Nth.succ))) ?_
                refine JL.rd (Rd.move (t10 rfl rfl)) ?_
                refine JL.ef (Ef.call (.cons (t3 rfl rfl) (.cons (t1 rfl rfl) (.cons (t0 rfl) .nil))) (rwrite_any r1 r2 k1 k2 D hwf o.block ((opB o.first ++ opB o.first).take (atU o.at_)) ho hp (by simp <;> omega)) (by repeat (first | exact Sel.nil | apply Sel.cons (by repeat (first | exact .here | apply Take.there)))) ?_)
                rintro ⟨x1, y1, x2, y2⟩ -
                simp only [List.cons_append, List.nil_append]
                refine JL.rd (Rd.move (t0 rfl)) ?_
                refine JL.rd (Rd.extract (t0 rfl) (by repeat (first | exact .zero | apply Nth.succ))) ?_
                refine JL.rd (Rd.extract (t1 rfl rfl) (by repeat (first | exact .zero | apply Nth.succ))) ?_
                refine JL.ef0 (Ef.stB Try.sizeOf51 (t21 rfl rfl) (t1 rfl rfl) (by repeat (first | exact .here | apply Rep.there)) (by repeat (first | exact .own | exact .rd | apply Blk.there)) (by first | rfl | assumption | simp_all) (by first | rfl | assumption | simp_all) (by first | exact bv_one _ | exact cons_one rfl (bv_one _) | (simp [Value.oneCell']; done) | (simp [Value.oneCell', str]; done)) (by decide) ?_)
                refine JL.rd (Rd.assign (t0 rfl)) ?_
                refine JL.nil ?_
                refine At.blkN ?_
                refine At.next ?_
                refine J.seq ?_
                refine J.region ?_
                refine JL.rd (Rd.ldB Try.isAgg51 Try.sizeOf51 (t22 rfl rfl) (by repeat (first | exact .own | exact .rd | apply Blk.there)) (by first | rfl | assumption | simp_all)) ?_
                refine JL.rd (Rd.move (t10 rfl rfl)) ?_
                refine JL.rd (Rd.move (t2 rfl rfl)) ?_
                refine JL.rd (Rd.eql (t1 rfl rfl) (t0 rfl)) ?_
                refine JL.ef0 (Ef.stB Try.sizeOf51 (t24 rfl rfl) (t3 rfl rfl) (by repeat (first | exact .here | apply Rep.there)) (by repeat (first | exact .own | exact .rd | apply Blk.there)) (by first | rfl | assumption | simp_all) (by first | rfl | assumption | simp_all) (by first | exact bv_one _ | exact cons_one rfl (bv_one _) | (simp [Value.oneCell']; done) | (simp [Value.oneCell', str]; done)) (by decide) ?_)
                refine JL.rd (Rd.assign (t0 rfl)) ?_
                refine JL.nil ?_
                refine At.next ?_
                refine J.ret ?_
                exact At.ret ((x1, y1, x2, y2)) (trivial) (ResV.many (rs := [.cell 6 51, .tmp 7]) rfl (.agg Try.isAgg51 Try.sizeOf51 (t25 rfl rfl) (by repeat (first | exact .own | exact .rd | apply Blk.there)) (by first | rfl | assumption | simp_all) (.tmp (t0 rfl) .nil)) (by simp)) (by rw [hD]; simp [Dk.failed]) (fun _ st => by rw [hD]; exact Stars.sel (by repeat (first | exact Sel.nil | apply Sel.cons (by repeat (first | exact .here | apply Take.there)))) st)
end Go.Proofs.Ytfnoaohbjlnkgaa
