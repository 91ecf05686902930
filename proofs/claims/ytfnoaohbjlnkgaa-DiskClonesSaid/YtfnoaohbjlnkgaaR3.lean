/-
  Walks, printed by mk.py.
-/
import Derived.Test.YtfnoaohbjlnkgaaR2
namespace Go.Proofs.Ytfnoaohbjlnkgaa
attribute [local irreducible] J JL At Rd Ef DNew DCar DRun Then RetQ LoopQ


set_option maxRecDepth 100000 in
set_option maxHeartbeats 400000 in
theorem rwrite_any (r1 r2 : Option Addr) (k1 k2 : Nat) (D : Dk) (hwf : D.wf) (i : Int) (s : List UInt8) (ho : D.ops < 1099511627776) (hp : D.pend.length < 1048576) (hsl : s.length < 9223372036854775807) :
    Fn Try.prog 47 [refV r1 k1 r2 k2 D, .int .i64 i, str s] [rowR r1 1 (durs D.n D.dur), rowR r2 2 (D.pend.map wcell)] (X := Option Addr × Nat × Option Addr × Nat) (fun _ => True) (fun x => .tuple #[refV x.1 x.2.1 x.2.2.1 x.2.2.2 (writeD D i s), .int .i64 (writeC D i s.length)]) (fun x => [rowR x.1 1 (durs (writeD D i s).n (writeD D i s).dur), rowR x.2.2.1 2 ((writeD D i s).pend.map wcell)]) := by
  refine Fn.mk' (n := 43) (l := [(0, refV r1 k1 r2 k2 D), (1, .int .i64 i), (2, str s)]) (fn := Try.f47) Try.func47 (by kernel_rfl) rfl rfl (by simp) rfl ?_
  intro h0 w0
  have hlen := hwf.plen
  have hn2 := hwf.n2
  have hn1 := hwf.n1
  refine J.seq ?_
  refine J.region ?_
  refine JL.ef (Ef.box (t0 rfl) rfl ?_)
  intro b1
  refine JL.ef (Ef.alloc Try.zeroValue51 rfl ?_)
  intro b2
  refine JL.rd (Rd.assign Ev.c) ?_
  refine JL.nil ?_
  refine At.next ?_
  refine J.seq ?_
  refine J.block ?_
  refine J.seq ?_
  refine J.region ?_
  refine JL.rd ((by first | exact Rd.fld0 fld_51_3 (t2 rfl rfl) | exact Rd.fld fld_51_3 (t2 rfl rfl))) ?_
  refine JL.rd (Rd.ldN Try.isAgg4 (t0 rfl) (by repeat (first | exact .own | exact .rd | apply Blk.there)) (by repeat (first | exact .zero | apply Nth.succ))) ?_
  refine JL.rd (Rd.assign (t0 rfl)) ?_
  refine JL.nil ?_
  refine At.next ?_
  refine J.cond (t0 rfl) ?_ ?_
  · intro hc3
    have hdn : D.down = true := hc3
    have hr : reachC D i = 29 := by simp [reachC, hdn]
    have hW : writeD D i s = D := by simp [writeD, hr]
    have hC : writeC D i s.length = 29 := by simp [writeC, hr]
    refine J.seq ?_
    refine J.region ?_
    refine JL.rd (Rd.ldB Try.isAgg51 Try.sizeOf51 (t5 rfl rfl) (by repeat (first | exact .own | exact .rd | apply Blk.there)) (by first | rfl | assumption | simp_all)) ?_
    refine JL.ef0 (Ef.stB Try.sizeOf51 (t5 rfl rfl) (t0 rfl) (by repeat (first | exact .here | apply Rep.there)) (by repeat (first | exact .own | exact .rd | apply Blk.there)) (by first | rfl | assumption | simp_all) (by first | rfl | assumption | simp_all) (by first | exact bv_one _ | exact cons_one rfl (bv_one _) | (simp [Value.oneCell']; done) | (simp [Value.oneCell', str]; done)) (by decide) ?_)
    refine JL.rd (Rd.assign Ev.c) ?_
    refine JL.nil ?_
    refine At.next ?_
    refine J.ret ?_
    refine At.blkR ?_
    refine At.nextR ?_
    exact At.ret ((r1, k1, r2, k2)) (trivial) (ResV.many (rs := [.cell 6 51, .tmp 7]) rfl (.agg Try.isAgg51 Try.sizeOf51 (t6 rfl rfl) (by repeat (first | exact .own | exact .rd | apply Blk.there)) (by first | rfl | assumption | simp_all) (.tmp (t0 rfl) .nil)) (by simp)) (by rw [hW, hC]) (fun _ st => by rw [hW]; exact Stars.sel (by repeat (first | exact Sel.nil | apply Sel.cons (by repeat (first | exact .here | apply Take.there)))) st)
  · intro hc3
    have hdn : D.down = false := hc3
    refine J.seq ?_
    refine J.region ?_
    refine JL.rd (Rd.ldB Try.isAgg51 Try.sizeOf51 (t5 rfl rfl) (by repeat (first | exact .own | exact .rd | apply Blk.there)) (by first | rfl | assumption | simp_all)) ?_
    refine JL.rd (Rd.move (t8 rfl rfl)) ?_
    refine JL.ef (Ef.call (.cons (t1 rfl rfl) (.cons (t0 rfl) .nil)) (is_any r1 r2 k1 k2 D hwf i) (by repeat (first | exact Sel.nil | apply Sel.cons (by repeat (first | exact .here | apply Take.there)))) ?_)
    rintro - -
    simp only [List.cons_append, List.nil_append]
    refine JL.rd (Rd.not (t0 rfl)) ?_
    refine JL.rd (Rd.assign (t0 rfl)) ?_
    refine JL.nil ?_
    refine At.next ?_
    refine J.cond (t0 rfl) ?_ ?_
    · intro hc4
      have hh : ¬ (0 ≤ i ∧ i < D.n) := by intro hh; simp [hh.1, hh.2] at hc4
      have hr : reachC D i = 8 := by simp [reachC, hdn]; omega
      have hW : writeD D i s = D := by simp [writeD, hr]
      have hC : writeC D i s.length = 8 := by simp [writeC, hr]
      refine J.seq ?_
      refine J.region ?_
      refine JL.rd (Rd.ldB Try.isAgg51 Try.sizeOf51 (t10 rfl rfl) (by repeat (first | exact .own | exact .rd | apply Blk.there)) (by first | rfl | assumption | simp_all)) ?_
      refine JL.ef0 (Ef.stB Try.sizeOf51 (t10 rfl rfl) (t0 rfl) (by repeat (first | exact .here | apply Rep.there)) (by repeat (first | exact .own | exact .rd | apply Blk.there)) (by first | rfl | assumption | simp_all) (by first | rfl | assumption | simp_all) (by first | exact bv_one _ | exact cons_one rfl (bv_one _) | (simp [Value.oneCell']; done) | (simp [Value.oneCell', str]; done)) (by decide) ?_)
      refine JL.rd (Rd.assign Ev.c) ?_
      refine JL.nil ?_
      refine At.next ?_
      refine J.ret ?_
      refine At.blkR ?_
      refine At.nextR ?_
      exact At.ret ((r1, k1, r2, k2)) (trivial) (ResV.many (rs := [.cell 6 51, .tmp 7]) rfl (.agg Try.isAgg51 Try.sizeOf51 (t11 rfl rfl) (by repeat (first | exact .own | exact .rd | apply Blk.there)) (by first | rfl | assumption | simp_all) (.tmp (t0 rfl) .nil)) (by simp)) (by rw [hW, hC]) (fun _ st => by rw [hW]; exact Stars.sel (by repeat (first | exact Sel.nil | apply Sel.cons (by repeat (first | exact .here | apply Take.there)))) st)
    · intro hc4
      have hh : 0 ≤ i ∧ i < D.n := by simpa using hc4
      have hr : reachC D i = 0 := by simp [reachC, hdn]; omega
      refine J.seq ?_
      refine J.region ?_
      refine JL.rd (Rd.move (t13 rfl rfl)) ?_
      refine JL.rd (Rd.lenStr Try.runUnderlying9 (t0 rfl)) ?_
      refine JL.rd (Rd.neq (t0 rfl) Ev.c) ?_
      refine JL.rd (Rd.assign (t0 rfl)) ?_
      refine JL.nil ?_
      refine At.next ?_
      refine J.condD (t0 rfl) ?_ ?_
      · intro hc5
        have hs : s.length ≠ 512 := by omega
        have hW : writeD D i s = D := by simp [writeD, hr, hs]
        have hC : writeC D i s.length = 2 := by simp [writeC, hr, hs]
        refine J.seq ?_
        refine J.region ?_
        refine JL.rd (Rd.ldB Try.isAgg51 Try.sizeOf51 (t14 rfl rfl) (by repeat (first | exact .own | exact .rd | apply Blk.there)) (by first | rfl | assumption | simp_all)) ?_
        refine JL.ef0 (Ef.stB Try.sizeOf51 (t14 rfl rfl) (t0 rfl) (by repeat (first | exact .here | apply Rep.there)) (by repeat (first | exact .own | exact .rd | apply Blk.there)) (by first | rfl | assumption | simp_all) (by first | rfl | assumption | simp_all) (by first | exact bv_one _ | exact cons_one rfl (bv_one _) | (simp [Value.oneCell']; done) | (simp [Value.oneCell', str]; done)) (by decide) ?_)
        refine JL.rd (Rd.assign Ev.c) ?_
        refine JL.nil ?_
        refine At.next ?_
        refine J.ret ?_
        refine At.blkR ?_
        refine At.nextR ?_
        exact At.ret ((r1, k1, r2, k2)) (trivial) (ResV.many (rs := [.cell 6 51, .tmp 7]) rfl (.agg Try.isAgg51 Try.sizeOf51 (t15 rfl rfl) (by repeat (first | exact .own | exact .rd | apply Blk.there)) (by first | rfl | assumption | simp_all) (.tmp (t0 rfl) .nil)) (by simp)) (by rw [hW, hC]) (fun _ st => by rw [hW]; exact Stars.sel (by repeat (first | exact Sel.nil | apply Sel.cons (by repeat (first | exact .here | apply Take.there)))) st)
      · intro hc5
        have hs : s.length = 512 := by omega
        refine J.skip ?_
        refine At.blkN ?_
        refine At.next ?_
        refine J.seq ?_
        refine J.region ?_
        refine JL.rd (Rd.ldB Try.isAgg51 Try.sizeOf51 (t14 rfl rfl) (by repeat (first | exact .own | exact .rd | apply Blk.there)) (by first | rfl | assumption | simp_all)) ?_
        refine JL.ef (Ef.call (.cons (t0 rfl) .nil) (count_any r1 r2 k1 k2 D hwf ho) (by repeat (first | exact Sel.nil | apply Sel.cons (by repeat (first | exact .here | apply Take.there)))) ?_)
        rintro - -
        simp only [List.cons_append, List.nil_append]
        refine JL.rd (Rd.move (t0 rfl)) ?_
        refine JL.rd (Rd.extract (t0 rfl) (by repeat (first | exact .zero | apply Nth.succ))) ?_
        refine JL.rd (Rd.extract (t1 rfl rfl) (by repeat (first | exact .zero | apply Nth.succ))) ?_
        refine JL.ef0 (Ef.stB Try.sizeOf51 (t19 rfl rfl) (t1 rfl rfl) (by repeat (first | exact .here | apply Rep.there)) (by repeat (first | exact .own | exact .rd | apply Blk.there)) (by first | rfl | assumption | simp_all) (by first | rfl | assumption | simp_all) (by first | exact bv_one _ | exact cons_one rfl (bv_one _) | (simp [Value.oneCell']; done) | (simp [Value.oneCell', str]; done)) (by decide) ?_)
        refine JL.rd (Rd.assign (t0 rfl)) ?_
        refine JL.nil ?_
        refine At.next ?_
        refine J.seq ?_
        refine J.seq ?_
        refine J.region ?_
        refine JL.rd (Rd.move (t0 rfl)) ?_
        refine JL.rd (Rd.eql (t0 rfl) Ev.c) ?_
        refine JL.nil ?_
        refine At.next ?_
        refine J.condD (t0 rfl) ?_ ?_
        · intro hc6
          have hop : operC D = 0 := hc6
          have hW : writeD D i s = D.operated.wrote i.toNat s := by simp [writeD, hr, hs, hop]
          have hC : writeC D i s.length = 0 := by simp [writeC, hr, hs, hop]
          have hii : ((i.toNat : Nat) : Int) = i := by omega
          refine J.region ?_
          refine JL.ef (Ef.slit0 elt_49 ?_)
          intro b7
          refine JL.rd ((by first | exact Rd.fld0 fld_51_1 (t23 rfl rfl) | exact Rd.fld fld_51_1 (t23 rfl rfl))) ?_
          refine JL.rd (Rd.ldN Try.isAgg49 (t0 rfl) (by repeat (first | exact .own | exact .rd | apply Blk.there)) (by repeat (first | exact .zero | apply Nth.succ))) ?_
          refine JL.ef (Ef.appS elt_49 (t2 rfl rfl) (t0 rfl) (by repeat (first | exact .here | apply Take.there)) (by first | (apply SIn.row; (repeat (first | exact .here | apply Take.there)); done) | (apply SIn.rowR; (repeat (first | exact .here | apply Take.there)); done) | (apply SIn.bytes; (repeat (first | exact .here | apply Take.there)); done) | (apply hA; (repeat (first | exact .here | apply Take.there)); done)) (by first | (simp; done) | (simp; omega) | omega | (simp [*]; done)) (by first | (simp; done) | (simp; omega) | omega | (simp [*]; done)) wcell_one (by first | omega | (simp; omega)) (by first | (simp only [maxLen]; omega) | (simp [maxLen]; omega)) ?_)
          intro a8 c9
          refine JL.rd (Rd.move (t28 rfl rfl)) ?_
          refine JL.rd (Rd.move (t30 rfl rfl)) ?_
          refine JL.rd (Rd.buildS (.cons (t1 rfl rfl) (.cons (t0 rfl) .nil)) bld_65 (by repeat (first | exact FillN.nil | apply FillN.one rfl rfl (by repeat (first | exact SetN.zero | apply SetN.succ))))) ?_
          refine JL.ef (Ef.slit1 elt_49 (t0 rfl) rfl rfl (by decide) ?_)
          intro b10
          refine JL.ef (Ef.appS elt_49 (t4 rfl rfl) (t0 rfl) (by repeat (first | exact .here | apply Take.there)) (by first | (apply SIn.row; (repeat (first | exact .here | apply Take.there)); done) | (apply SIn.rowR; (repeat (first | exact .here | apply Take.there)); done) | (apply SIn.bytes; (repeat (first | exact .here | apply Take.there)); done) | (apply hA; (repeat (first | exact .here | apply Take.there)); done)) (by first | (simp; done) | (simp; omega) | omega | (simp [*]; done)) (by first | (simp; done) | (simp; omega) | omega | (simp [*]; done)) (by simp [Value.oneCell', str]) (by first | omega | (simp; omega)) (by first | (simp only [maxLen]; omega) | (simp [maxLen]; omega)) ?_)
          intro a11 c12
          refine JL.rd ((by first | exact Rd.fld0 fld_51_1 (t31 rfl rfl) | exact Rd.fld fld_51_1 (t31 rfl rfl))) ?_
          refine JL.ef0 (Ef.st Try.sizeOf49 (t0 rfl) (t1 rfl rfl) rfl (by repeat (first | exact .here | apply Rep.there)) (by repeat (first | exact .own | exact .rd | apply Blk.there)) (by repeat (first | exact .zero | apply SetN.succ)) (by first | rfl | simp) ?_)
          refine JL.nil ?_
          refine At.next ?_
          refine J.seq ?_
          refine J.live (K := [(8, _), (7, _), (6, _), (3, _)]) ⟨(lk12 rfl), (lk30 rfl), (lk31 rfl), (lk32 rfl), trivial⟩ ?_
          intro ρ13
          refine J.region ?_
          refine JL.rd (Rd.ldB Try.isAgg51 Try.sizeOf51 (t3 rfl rfl) (by repeat (first | exact .own | exact .rd | apply Blk.there)) (by first | rfl | assumption | simp_all)) ?_
          refine JL.rd (Rd.move (t1 rfl rfl)) ?_
          refine JL.ef0 (Ef.stB Try.sizeOf51 (t4 rfl rfl) (t1 rfl rfl) (by repeat (first | exact .here | apply Rep.there)) (by repeat (first | exact .own | exact .rd | apply Blk.there)) (by first | rfl | assumption | simp_all) (by first | rfl | assumption | simp_all) (by first | exact bv_one _ | exact cons_one rfl (bv_one _) | (simp [Value.oneCell']; done) | (simp [Value.oneCell', str]; done)) (by decide) ?_)
          refine JL.rd (Rd.assign (t0 rfl)) ?_
          refine JL.nil ?_
          refine At.next ?_
          refine J.ret ?_
          refine At.demote (by repeat (first | exact .here | apply Take.there)) ?_
          exact At.ret ((r1, k1, a11, c12)) (trivial) (ResV.many (rs := [.cell 6 51, .tmp 7]) rfl (.agg Try.isAgg51 Try.sizeOf51 (t5 rfl rfl) (by repeat (first | exact .own | exact .rd | apply Blk.there)) (by first | rfl | assumption | simp_all) (.tmp (t0 rfl) .nil)) (by simp)) (by rw [hW, hC, hop]; simp [refV, Dk.wrote]) (fun _ st => by rw [hW]; have s1 := Stars.sel (pre := [rowR r1 1 (durs D.n D.dur), rowR a11 2 ([] ++ D.pend.map wcell ++ [[.int .i64 i, str s]])]) (by repeat (first | exact Sel.nil | apply Sel.cons (by repeat (first | exact .here | apply Take.there)))) st; rw [← hii] at s1; simpa [Dk.wrote, wcell] using s1)
        · intro hc6
          have hop : operC D ≠ 0 := hc6
          have hW : writeD D i s = D.operated := by simp [writeD, hr, hs, hop]
          have hC : writeC D i s.length = operC D := by simp [writeC, hr, hs]
          refine J.skip ?_
          refine At.next ?_
          refine J.seq ?_
          refine J.region ?_
          refine JL.rd (Rd.ldB Try.isAgg51 Try.sizeOf51 (t22 rfl rfl) (by repeat (first | exact .own | exact .rd | apply Blk.there)) (by first | rfl | assumption | simp_all)) ?_
          refine JL.rd (Rd.move (t3 rfl rfl)) ?_
          refine JL.ef0 (Ef.stB Try.sizeOf51 (t23 rfl rfl) (t1 rfl rfl) (by repeat (first | exact .here | apply Rep.there)) (by repeat (first | exact .own | exact .rd | apply Blk.there)) (by first | rfl | assumption | simp_all) (by first | rfl | assumption | simp_all) (by first | exact bv_one _ | exact cons_one rfl (bv_one _) | (simp [Value.oneCell']; done) | (simp [Value.oneCell', str]; done)) (by decide) ?_)
          refine JL.rd (Rd.assign (t0 rfl)) ?_
          refine JL.nil ?_
          refine At.next ?_
          refine J.ret ?_
          exact At.ret ((r1, k1, r2, k2)) (trivial) (ResV.many (rs := [.cell 6 51, .tmp 7]) rfl (.agg Try.isAgg51 Try.sizeOf51 (t24 rfl rfl) (by repeat (first | exact .own | exact .rd | apply Blk.there)) (by first | rfl | assumption | simp_all) (.tmp (t0 rfl) .nil)) (by simp)) (by rw [hW, hC]) (fun _ st => by rw [hW]; have s1 := Stars.sel (pre := [rowR r1 1 (durs D.n D.dur), rowR r2 2 (D.pend.map wcell)]) (by repeat (first | exact Sel.nil | apply Sel.cons (by repeat (first | exact .here | apply Take.there)))) st; simpa using s1)

set_option maxRecDepth 100000 in
set_option maxHeartbeats 400000 in
theorem rflush_any (r1 r2 : Option Addr) (k1 k2 : Nat) (D : Dk) (hwf : D.wf) (ho : D.ops < 1099511627776) :
    Fn Try.prog 28 [refV r1 k1 r2 k2 D] [rowR r1 1 (durs D.n D.dur), rowR r2 2 (D.pend.map wcell)] (X := Option Addr × Nat × Option Addr × Nat) (fun _ => True) (fun x => .tuple #[refV x.1 x.2.1 x.2.2.1 x.2.2.2 (flushD D), .int .i64 (flushC D)]) (fun x => [rowR x.1 1 (durs (flushD D).n (flushD D).dur), rowR x.2.2.1 2 ((flushD D).pend.map wcell)]) := by
  refine Fn.mk' (n := 37) (l := [(0, refV r1 k1 r2 k2 D)]) (fn := Try.f28) Try.func28 (by kernel_rfl) rfl rfl (by simp) rfl ?_
  intro h0 w0
  have hlen := hwf.plen
  have hn2 := hwf.n2
  have hn1 := hwf.n1
  refine J.seq ?_
  refine J.region ?_
  refine JL.ef (Ef.box (t0 rfl) rfl ?_)
  intro b1
  refine JL.ef (Ef.alloc Try.zeroValue51 rfl ?_)
  intro b2
  refine JL.rd (Rd.assign Ev.c) ?_
  refine JL.nil ?_
  refine At.next ?_
  refine J.seq ?_
  refine J.seq ?_
  refine J.region ?_
  refine JL.rd ((by first | exact Rd.fld0 fld_51_3 (t2 rfl rfl) | exact Rd.fld fld_51_3 (t2 rfl rfl))) ?_
  refine JL.rd (Rd.ldN Try.isAgg4 (t0 rfl) (by repeat (first | exact .own | exact .rd | apply Blk.there)) (by repeat (first | exact .zero | apply Nth.succ))) ?_
  refine JL.nil ?_
  refine At.next ?_
  refine J.cond (t0 rfl) ?_ ?_
  · intro hc3
    have hdn : D.down = true := hc3
    have hW : flushD D = D := by simp [flushD, hdn]
    have hC : flushC D = 29 := by simp [flushC, hdn]
    refine J.seq ?_
    refine J.region ?_
    refine JL.rd (Rd.ldB Try.isAgg51 Try.sizeOf51 (t4 rfl rfl) (by repeat (first | exact .own | exact .rd | apply Blk.there)) (by first | rfl | assumption | simp_all)) ?_
    refine JL.ef0 (Ef.stB Try.sizeOf51 (t4 rfl rfl) (t0 rfl) (by repeat (first | exact .here | apply Rep.there)) (by repeat (first | exact .own | exact .rd | apply Blk.there)) (by first | rfl | assumption | simp_all) (by first | rfl | assumption | simp_all) (by first | exact bv_one _ | exact cons_one rfl (bv_one _) | (simp [Value.oneCell']; done) | (simp [Value.oneCell', str]; done)) (by decide) ?_)
    refine JL.rd (Rd.assign Ev.c) ?_
    refine JL.nil ?_
    refine At.next ?_
    refine J.ret ?_
    refine At.nextR ?_
    exact At.ret ((r1, k1, r2, k2)) (trivial) (ResV.many (rs := [.cell 2 51, .tmp 3]) rfl (.agg Try.isAgg51 Try.sizeOf51 (t5 rfl rfl) (by repeat (first | exact .own | exact .rd | apply Blk.there)) (by first | rfl | assumption | simp_all) (.tmp (t0 rfl) .nil)) (by simp)) (by rw [hW, hC]) (fun _ st => by rw [hW]; exact Stars.sel (by repeat (first | exact Sel.nil | apply Sel.cons (by repeat (first | exact .here | apply Take.there)))) st)
  · intro hc3
    have hdn : D.down = false := hc3
    refine J.skip ?_
    refine At.next ?_
    refine J.seq ?_
    refine J.region ?_
    refine JL.rd (Rd.ldB Try.isAgg51 Try.sizeOf51 (t4 rfl rfl) (by repeat (first | exact .own | exact .rd | apply Blk.there)) (by first | rfl | assumption | simp_all)) ?_
    refine JL.ef (Ef.call (.cons (t0 rfl) .nil) (count_any r1 r2 k1 k2 D hwf ho) (by repeat (first | exact Sel.nil | apply Sel.cons (by repeat (first | exact .here | apply Take.there)))) ?_)
    rintro - -
    simp only [List.cons_append, List.nil_append]
    refine JL.rd (Rd.move (t0 rfl)) ?_
    refine JL.rd (Rd.extract (t0 rfl) (by repeat (first | exact .zero | apply Nth.succ))) ?_
    refine JL.rd (Rd.extract (t1 rfl rfl) (by repeat (first | exact .zero | apply Nth.succ))) ?_
    refine JL.ef (Ef.alloc Try.zeroValue51 rfl ?_)
    intro b4
    refine JL.ef0 (Ef.stB Try.sizeOf51 (t0 rfl) (t2 rfl rfl) (by repeat (first | exact .here | apply Rep.there)) (by repeat (first | exact .own | exact .rd | apply Blk.there)) (by first | rfl | assumption | simp_all) (by first | rfl | assumption | simp_all) (by first | exact bv_one _ | exact cons_one rfl (bv_one _) | (simp [Value.oneCell']; done) | (simp [Value.oneCell', str]; done)) (by decide) ?_)
    refine JL.rd (Rd.assign (t1 rfl rfl)) ?_
    refine JL.nil ?_
    refine At.next ?_
    refine J.seq ?_
    refine J.seq ?_
    refine J.region ?_
    refine JL.rd (Rd.move (t0 rfl)) ?_
    refine JL.rd (Rd.neq (t0 rfl) Ev.c) ?_
    refine JL.nil ?_
    refine At.next ?_
    refine J.condD (t0 rfl) ?_ ?_
    · intro hc5
      have hop : operC D ≠ 0 := hc5
      have hW : flushD D = D.operated := by simp [flushD, hdn, hop]
      have hC : flushC D = operC D := by simp [flushC, hdn]
      refine J.seq ?_
      refine J.region ?_
      refine JL.rd (Rd.ldB Try.isAgg51 Try.sizeOf51 (t3 rfl rfl) (by repeat (first | exact .own | exact .rd | apply Blk.there)) (by first | rfl | assumption | simp_all)) ?_
      refine JL.rd (Rd.move (t3 rfl rfl)) ?_
      refine JL.ef0 (Ef.stB Try.sizeOf51 (t14 rfl rfl) (t1 rfl rfl) (by repeat (first | exact .here | apply Rep.there)) (by repeat (first | exact .own | exact .rd | apply Blk.there)) (by first | rfl | assumption | simp_all) (by first | rfl | assumption | simp_all) (by first | exact bv_one _ | exact cons_one rfl (bv_one _) | (simp [Value.oneCell']; done) | (simp [Value.oneCell', str]; done)) (by decide) ?_)
      refine JL.rd (Rd.assign (t0 rfl)) ?_
      refine JL.nil ?_
      refine At.next ?_
      refine J.ret ?_
      refine At.nextR ?_
      exact At.ret ((r1, k1, r2, k2)) (trivial) (ResV.many (rs := [.cell 2 51, .tmp 3]) rfl (.agg Try.isAgg51 Try.sizeOf51 (t15 rfl rfl) (by repeat (first | exact .own | exact .rd | apply Blk.there)) (by first | rfl | assumption | simp_all) (.tmp (t0 rfl) .nil)) (by simp)) (by rw [hW, hC]) (fun _ st => by rw [hW]; have s1 := Stars.sel (pre := [rowR r1 1 (durs D.n D.dur), rowR r2 2 (D.pend.map wcell)]) (by repeat (first | exact Sel.nil | apply Sel.cons (by repeat (first | exact .here | apply Take.there)))) st; simpa using s1)
    · intro hc5
      have hop : operC D = 0 := by simpa using hc5
      have hW : flushD D = D.operated.flushed := by simp [flushD, hdn, hop]
      have hC : flushC D = 0 := by simp [flushC, hdn, hop]
      refine J.skip ?_
      refine At.next ?_
      refine J.seq ?_
      refine J.region ?_
      refine JL.rd ((by first | exact Rd.fld0 fld_51_0 (t3 rfl rfl) | exact Rd.fldz fld_51_0 (t3 rfl rfl))) ?_
      refine JL.ef0 (Ef.st Try.sizeOf48 (t0 rfl) Ev.c rfl (by repeat (first | exact .here | apply Rep.there)) (by repeat (first | exact .own | exact .rd | apply Blk.there)) (by repeat (first | exact .zero | apply SetN.succ)) (by first | rfl | simp) ?_)
      refine JL.nil ?_
      refine At.next ?_
      refine J.seq ?_
      refine J.seq ?_
      refine J.region ?_
      refine JL.rd (Rd.assign Ev.c) ?_
      refine JL.nil ?_
      refine At.next ?_
      refine J.block ?_
      refine J.loop (X := Nat × Option Addr × Nat) (fun (x : Nat × Option Addr × Nat) => [(6, .int .i64 (x.1 : Int))]) (K := [(4, _), (3, _), (2, _), (1, _)]) (fun x => [pts b4 (.cells [Value.slice x.2.1 x.1 x.2.2, .slice r2 D.operated.pend.length k2, .int .i64 D.operated.lim, .bool D.operated.down, .int .i64 D.operated.ops].toArray 51), row x.2.1 x.2.2 9 1 (durs x.1 D.vis), pts b1 (.cells [Value.slice r1 D.n k1, .slice r2 D.pend.length k2, .int .i64 D.lim, .bool D.down, .int .i64 D.ops].toArray 51), rowR r1 1 (durs D.n D.dur), rowR r2 2 (D.pend.map wcell), pts b2 (.cells [Value.slice none 0 0, .slice none 0 0, .int .i64 0, .bool false, .int .i64 0].toArray 51)]) (fun x => x.1 ≤ D.n) (fun x => D.n - x.1) ((0, none, 0)) ?_ ⟨lk0.trans (by first | with_reducible rfl | (congr 1; omega) | (simp; done) | (simp [*]; done)), trivial⟩ ⟨(lk5 rfl), (lk13 rfl), (lk14 rfl), (lk15 rfl), trivial⟩ (fun _ s => Stars.sel (by repeat (first | exact Sel.nil | apply Sel.cons (by repeat (first | exact .here | apply Take.there)))) (row_nil 9 1 s)) ?_
      · exact Nat.zero_le _
      rintro ⟨x, ra, rc⟩ ρ hp
      simp only [List.cons_append, List.nil_append]
      dsimp only at hp ⊢
      refine J.seq ?_
      refine J.seq ?_
      refine J.region ?_
      refine JL.rd (Rd.move (t0 rfl)) ?_
      refine JL.rd ((by first | exact Rd.fld0 fld_51_0 (t5 rfl rfl) | exact Rd.fldz fld_51_0 (t5 rfl rfl))) ?_
      refine JL.rd (Rd.ldN Try.isAgg48 (t0 rfl) (by repeat (first | exact .own | exact .rd | apply Blk.there)) (by repeat (first | exact .zero | apply Nth.succ))) ?_
      refine JL.rd (Rd.len Try.runUnderlying48 (t0 rfl)) ?_
      refine JL.rd (Rd.lss (t3 rfl rfl) (t0 rfl)) ?_
      refine JL.nil ?_
      refine At.next ?_
      refine J.condD (t0 rfl) ?_ ?_
      · intro hc6
        refine J.skip ?_
        refine At.next ?_
        refine J.seq ?_
        refine J.block ?_
        refine J.draw [⟨false, 0, 2⟩, ⟨false, 0, 2⟩, ⟨false, 0, 0⟩, ⟨false, 0, 0⟩, ⟨true, 0, 0⟩, ⟨true, 1, 1⟩, ⟨true, 2, 2⟩, ⟨false, 3, 3⟩, ⟨true, 3, 3⟩] [4, 5, 6, 8] mixed rfl ?_
        refine DRun.at [] [0, 1, 2, 3] rfl rfl ?_ ?_
        · exact .nil
        refine DNew.rd rfl ((by first | exact Rd.fld0 fld_51_0 (t6 rfl rfl) | exact Rd.fldz fld_51_0 (t6 rfl rfl))) ?_
        refine DNew.rd rfl (Rd.ldN Try.isAgg48 (t0 rfl) (by repeat (first | exact .own | exact .rd | apply Blk.there)) (by repeat (first | exact .zero | apply Nth.succ))) ?_
        refine DNew.rd rfl (Rd.ldB Try.isAgg51 Try.sizeOf51 (t11 rfl rfl) (by repeat (first | exact .own | exact .rd | apply Blk.there)) (by first | rfl | assumption | simp_all)) ?_
        refine DNew.rd rfl (Rd.move (t8 rfl rfl)) ?_
        refine DNew.nil ?_
        refine DRun.ef rfl (Ef.call (.cons (t1 rfl rfl) (.cons (t0 rfl) .nil)) (rvis_any r1 r2 k1 k2 D hwf x (by omega)) (by repeat (first | exact Sel.nil | apply Sel.cons (by repeat (first | exact .here | apply Take.there)))) ?_)
        rintro - -
        simp only [List.cons_append, List.nil_append]
        refine DRun.at [0, 1] [] rfl rfl ?_ ?_
        · refine DCar.rd rfl (lk4 rfl) ((by first | exact Rd.fld0 fld_51_0 (t11 rfl rfl) | exact Rd.fldz fld_51_0 (t11 rfl rfl))) ?_
          refine DCar.rd rfl (lk3 rfl) (Rd.ldN Try.isAgg48 (t4 rfl rfl) (by repeat (first | exact .own | exact .rd | apply Blk.there)) (by repeat (first | exact .zero | apply Nth.succ))) ?_
          exact .nil
        refine DNew.nil ?_
        refine DRun.ef rfl (Ef.slit1 elt_48 (t0 rfl) rfl rfl (by decide) ?_)
        intro b7
        refine DRun.at [0, 1] [] rfl rfl ?_ ?_
        · refine DCar.rd rfl (lk5 rfl) ((by first | exact Rd.fld0 fld_51_0 (t12 rfl rfl) | exact Rd.fldz fld_51_0 (t12 rfl rfl))) ?_
          refine DCar.rd rfl (lk4 rfl) (Rd.ldN Try.isAgg48 (t5 rfl rfl) (by repeat (first | exact .own | exact .rd | apply Blk.there)) (by repeat (first | exact .zero | apply Nth.succ))) ?_
          exact .nil
        refine DNew.nil ?_
        refine DRun.ef rfl (Ef.appS elt_48 (t4 rfl rfl) (t0 rfl) (by repeat (first | exact .here | apply Take.there)) (by first | (apply SIn.row; (repeat (first | exact .here | apply Take.there)); done) | (apply SIn.rowR; (repeat (first | exact .here | apply Take.there)); done) | (apply SIn.bytes; (repeat (first | exact .here | apply Take.there)); done) | (apply hA; (repeat (first | exact .here | apply Take.there)); done)) (by first | (simp; done) | (simp; omega) | omega | (simp [*]; done)) (by first | (simp; done) | (simp; omega) | omega | (simp [*]; done)) (by simp [Value.oneCell', str]) (by first | omega | (simp; omega)) (by first | (simp only [maxLen]; omega) | (simp [maxLen]; omega)) ?_)
        intro a8 c9
        refine DRun.at [] [7] rfl rfl ?_ ?_
        · exact .nil
        refine DNew.rd rfl ((by first | exact Rd.fld0 fld_51_0 (t13 rfl rfl) | exact Rd.fldz fld_51_0 (t13 rfl rfl))) ?_
        refine DNew.nil ?_
        refine DRun.ef0 rfl (Ef.st Try.sizeOf48 (t0 rfl) (t1 rfl rfl) rfl (by repeat (first | exact .here | apply Rep.there)) (by repeat (first | exact .own | exact .rd | apply Blk.there)) (by repeat (first | exact .zero | apply SetN.succ)) (by first | rfl | simp) ?_)
        refine DRun.end [] [] rfl rfl ?_ ?_
        · exact .nil
        refine DNew.nil ?_
        refine At.blkN ?_
        refine At.next ?_
        refine J.region ?_
        refine JL.rd (Rd.move (t13 rfl rfl)) ?_
        refine JL.rd (Rd.add (t0 rfl) Ev.c (w64 (by omega) (by omega))) ?_
        refine JL.rd (Rd.assign (t0 rfl)) ?_
        refine JL.nil ?_
        rw [← durs_succ]
        refine At.again ((x + 1, a8, c9)) ?_ ?_ ⟨lk0.trans (by first | with_reducible rfl | (congr 1; omega) | (simp; done) | (simp [*]; done)), trivial⟩ ⟨(lk17 rfl), (lk18 rfl), (lk19 rfl), (lk20 rfl), trivial⟩ (fun _ => Stars.sel (by repeat (first | exact Sel.nil | apply Sel.cons (by repeat (first | exact .here | apply Take.there)))))
        · show x + 1 ≤ D.n; omega
        · show D.n - (x + 1) < D.n - x; omega
      · intro hc6
        obtain rfl : x = D.n := by omega
        refine J.exit ?_
        refine At.nextX ?_
        refine At.loopX ?_
        refine At.blkX ?_
        refine At.next ?_
        refine J.seq ?_
        refine J.region ?_
        refine JL.rd ((by first | exact Rd.fld0 fld_51_1 (t6 rfl rfl) | exact Rd.fld fld_51_1 (t6 rfl rfl))) ?_
        refine JL.ef0 (Ef.st Try.sizeOf49 (t0 rfl) Ev.c rfl (by repeat (first | exact .here | apply Rep.there)) (by repeat (first | exact .own | exact .rd | apply Blk.there)) (by repeat (first | exact .zero | apply SetN.succ)) (by first | rfl | simp) ?_)
        refine JL.nil ?_
        refine At.next ?_
        refine J.seq ?_
        refine J.region ?_
        refine JL.rd (Rd.ldB Try.isAgg51 Try.sizeOf51 (t7 rfl rfl) (by repeat (first | exact .own | exact .rd | apply Blk.there)) (by first | rfl | assumption | simp_all)) ?_
        refine JL.ef0 (Ef.stB Try.sizeOf51 (t10 rfl rfl) (t0 rfl) (by repeat (first | exact .here | apply Rep.there)) (by repeat (first | exact .own | exact .rd | apply Blk.there)) (by first | rfl | assumption | simp_all) (by first | rfl | assumption | simp_all) (by first | exact bv_one _ | exact cons_one rfl (bv_one _) | (simp [Value.oneCell']; done) | (simp [Value.oneCell', str]; done)) (by decide) ?_)
        refine JL.rd (Rd.assign Ev.c) ?_
        refine JL.nil ?_
        refine At.next ?_
        refine J.ret ?_
        refine At.demote (by repeat (first | exact .here | apply Take.there)) ?_
        exact At.ret ((ra, rc, none, 0)) (trivial) (ResV.many (rs := [.cell 2 51, .tmp 3]) rfl (.agg Try.isAgg51 Try.sizeOf51 (t11 rfl rfl) (by repeat (first | exact .own | exact .rd | apply Blk.there)) (by first | rfl | assumption | simp_all) (.tmp (t0 rfl) .nil)) (by simp)) (by rw [hW, hC]; simp [refV, Dk.flushed]) (fun _ st => by rw [hW]; have s1 := Stars.sel (pre := [rowR ra 1 (durs D.n D.vis), rowR none 2 []]) (by repeat (first | exact Sel.nil | apply Sel.cons (by repeat (first | exact .here | apply Take.there)))) (rowR_nil none 2 st); simpa [Dk.flushed] using s1)
end Go.Proofs.Ytfnoaohbjlnkgaa
