/-
  Walks, printed by mk.py.
-/
import Derived.Test.YtfnoaohbjlnkgaaR1
namespace Go.Proofs.Ytfnoaohbjlnkgaa
attribute [local irreducible] J JL At Rd Ef DNew DCar DRun Then RetQ LoopQ


set_option maxRecDepth 100000 in
set_option maxHeartbeats 400000 in
theorem rnew_any (n : Nat) (h1 : 1 ≤ n) (h2 : n ≤ 8192) :
    Fn Try.prog 44 [.int .i64 (n : Int)] [] (X := Option Addr × Nat × Option Addr × Nat) (fun _ => True) (fun x => .tuple #[refV x.1 x.2.1 x.2.2.1 x.2.2.2 (newD n), .int .i64 (0)]) (fun x => [rowR x.1 1 (durs (newD n).n (newD n).dur), rowR x.2.2.1 2 ((newD n).pend.map wcell)]) := by
  refine Fn.mk' (n := 26) (l := [(0, .int .i64 (n : Int))]) (fn := Try.f44) Try.func44 (by kernel_rfl) rfl rfl (by simp) rfl ?_
  intro h0 w0
  refine J.seq ?_
  refine J.region ?_
  refine JL.ef (Ef.alloc Try.zeroValue51 rfl ?_)
  intro b1
  refine JL.rd (Rd.assign Ev.c) ?_
  refine JL.nil ?_
  refine At.next ?_
  refine J.seq ?_
  refine J.seq ?_
  refine J.region ?_
  refine JL.rd (Rd.move (t2 rfl rfl)) ?_
  refine JL.rd (Rd.lss (t0 rfl) Ev.c) ?_
  refine JL.rd (Rd.move (t0 rfl)) ?_
  refine JL.caseD (t0 rfl) ?_ ?_
  · intro hb2p hb2
    omega
  · intro hb2p hb2
    refine JL.rdG rfl (EvB (t0 rfl) hb2) rfl (Rd.move (t5 rfl rfl)) ?_
    refine JL.rdG rfl (EvB (t1 rfl rfl) hb2) rfl (Rd.gtr (t0 rfl) Ev.c) ?_
    refine JL.rd (Rd.pickF (EvB (t2 rfl rfl) hb2) (t0 rfl)) ?_
    refine JL.nil ?_
    refine At.next ?_
    refine J.condD (t0 rfl) ?_ ?_
    · intro hc3
      omega
    · intro hc3
      refine J.skip ?_
      refine At.next ?_
      refine J.seq ?_
      refine J.region ?_
      refine JL.rd (Rd.buildS (.cons Ev.c .nil) bld_51 (by repeat (first | exact FillN.nil | apply FillN.one rfl rfl (by repeat (first | exact SetN.zero | apply SetN.succ))))) ?_
      refine JL.ef (Ef.alloc Try.zeroValue51 rfl ?_)
      intro b4
      refine JL.ef0 (Ef.stB Try.sizeOf51 (t0 rfl) (t1 rfl rfl) (by repeat (first | exact .here | apply Rep.there)) (by repeat (first | exact .own | exact .rd | apply Blk.there)) (by first | rfl | assumption | simp_all) (by first | rfl | assumption | simp_all) (by first | exact bv_one _ | exact cons_one rfl (bv_one _) | (simp [Value.oneCell']; done) | (simp [Value.oneCell', str]; done)) (by decide) ?_)
      refine JL.nil ?_
      refine At.next ?_
      refine J.seq ?_
      refine J.seq ?_
      refine J.region ?_
      refine JL.rd (Rd.assign Ev.c) ?_
      refine JL.nil ?_
      refine At.next ?_
      refine J.block ?_
      refine J.loop (X := Nat × Option Addr × Nat) (fun (x : Nat × Option Addr × Nat) => [(5, .int .i64 (x.1 : Int))]) (K := [(4, _), (3, _), (2, _), (0, _)]) (fun x => [pts b4 (.cells [Value.slice x.2.1 x.1 x.2.2, .slice none 0 0, .int .i64 (-1), .bool false, .int .i64 0].toArray 51), row x.2.1 x.2.2 9 1 (durs x.1 fun _ => zb), pts b1 (.cells [Value.slice none 0 0, .slice none 0 0, .int .i64 0, .bool false, .int .i64 0].toArray 51)]) (fun x => x.1 ≤ n) (fun x => n - x.1) ((0, none, 0)) ?_ ⟨lk0.trans (by first | with_reducible rfl | (congr 1; omega) | (simp; done) | (simp [*]; done)), trivial⟩ ⟨(lk1 rfl), (lk9 rfl), (lk10 rfl), (lk11 rfl), trivial⟩ (fun _ s => Stars.sel (by repeat (first | exact Sel.nil | apply Sel.cons (by repeat (first | exact .here | apply Take.there)))) (row_nil 9 1 s)) ?_
      · exact Nat.zero_le _
      rintro ⟨x, ra, rc⟩ ρ hp
      simp only [List.cons_append, List.nil_append]
      dsimp only at hp ⊢
      refine J.seq ?_
      refine J.seq ?_
      refine J.region ?_
      refine JL.rd (Rd.move (t0 rfl)) ?_
      refine JL.rd (Rd.move (t5 rfl rfl)) ?_
      refine JL.rd (Rd.lss (t1 rfl rfl) (t0 rfl)) ?_
      refine JL.nil ?_
      refine At.next ?_
      refine J.condD (t0 rfl) ?_ ?_
      · intro hc5
        refine J.skip ?_
        refine At.next ?_
        refine J.seq ?_
        refine J.block ?_
        refine J.draw [⟨false, 0, 2⟩, ⟨false, 0, 2⟩, ⟨true, 0, 0⟩, ⟨true, 1, 1⟩, ⟨true, 2, 2⟩, ⟨false, 3, 3⟩, ⟨true, 3, 3⟩] [2, 3, 4, 6] mixed rfl ?_
        refine DRun.at [] [0, 1] rfl rfl ?_ ?_
        · exact .nil
        refine DNew.rd rfl ((by first | exact Rd.fld0 fld_51_0 (t4 rfl rfl) | exact Rd.fldz fld_51_0 (t4 rfl rfl))) ?_
        refine DNew.rd rfl (Rd.ldN Try.isAgg48 (t0 rfl) (by repeat (first | exact .own | exact .rd | apply Blk.there)) (by repeat (first | exact .zero | apply Nth.succ))) ?_
        refine DNew.nil ?_
        refine DRun.ef rfl (Ef.call .nil (zero_any) (by repeat (first | exact Sel.nil | apply Sel.cons (by repeat (first | exact .here | apply Take.there)))) ?_)
        rintro - -
        simp only [List.cons_append, List.nil_append]
        refine DRun.at [0, 1] [] rfl rfl ?_ ?_
        · refine DCar.rd rfl (lk2 rfl) ((by first | exact Rd.fld0 fld_51_0 (t7 rfl rfl) | exact Rd.fldz fld_51_0 (t7 rfl rfl))) ?_
          refine DCar.rd rfl (lk1 rfl) (Rd.ldN Try.isAgg48 (t2 rfl rfl) (by repeat (first | exact .own | exact .rd | apply Blk.there)) (by repeat (first | exact .zero | apply Nth.succ))) ?_
          exact .nil
        refine DNew.nil ?_
        refine DRun.ef rfl (Ef.slit1 elt_48 (t0 rfl) rfl rfl (by decide) ?_)
        intro b6
        refine DRun.at [0, 1] [] rfl rfl ?_ ?_
        · refine DCar.rd rfl (lk3 rfl) ((by first | exact Rd.fld0 fld_51_0 (t8 rfl rfl) | exact Rd.fldz fld_51_0 (t8 rfl rfl))) ?_
          refine DCar.rd rfl (lk2 rfl) (Rd.ldN Try.isAgg48 (t3 rfl rfl) (by repeat (first | exact .own | exact .rd | apply Blk.there)) (by repeat (first | exact .zero | apply Nth.succ))) ?_
          exact .nil
        refine DNew.nil ?_
        refine DRun.ef rfl (Ef.appS elt_48 (t2 rfl rfl) (t0 rfl) (by repeat (first | exact .here | apply Take.there)) (by first | (apply SIn.row; (repeat (first | exact .here | apply Take.there)); done) | (apply SIn.rowR; (repeat (first | exact .here | apply Take.there)); done) | (apply SIn.bytes; (repeat (first | exact .here | apply Take.there)); done) | (apply hA; (repeat (first | exact .here | apply Take.there)); done)) (by first | (simp; done) | (simp; omega) | omega | (simp [*]; done)) (by first | (simp; done) | (simp; omega) | omega | (simp [*]; done)) (by simp [Value.oneCell', str]) (by first | omega | (simp; omega)) (by first | (simp only [maxLen]; omega) | (simp [maxLen]; omega)) ?_)
        intro a7 c8
        refine DRun.at [] [5] rfl rfl ?_ ?_
        · exact .nil
        refine DNew.rd rfl ((by first | exact Rd.fld0 fld_51_0 (t9 rfl rfl) | exact Rd.fldz fld_51_0 (t9 rfl rfl))) ?_
        refine DNew.nil ?_
        refine DRun.ef0 rfl (Ef.st Try.sizeOf48 (t0 rfl) (t1 rfl rfl) rfl (by repeat (first | exact .here | apply Rep.there)) (by repeat (first | exact .own | exact .rd | apply Blk.there)) (by repeat (first | exact .zero | apply SetN.succ)) (by first | rfl | simp) ?_)
        refine DRun.end [] [] rfl rfl ?_ ?_
        · exact .nil
        refine DNew.nil ?_
        refine At.blkN ?_
        refine At.next ?_
        refine J.region ?_
        refine JL.rd (Rd.move (t9 rfl rfl)) ?_
        refine JL.rd (Rd.add (t0 rfl) Ev.c (w64 (by omega) (by omega))) ?_
        refine JL.rd (Rd.assign (t0 rfl)) ?_
        refine JL.nil ?_
        rw [← durs_succ]
        refine At.again ((x + 1, a7, c8)) ?_ ?_ ⟨lk0.trans (by first | with_reducible rfl | (congr 1; omega) | (simp; done) | (simp [*]; done)), trivial⟩ ⟨(lk13 rfl), (lk14 rfl), (lk15 rfl), (lk16 rfl), trivial⟩ (fun _ => Stars.sel (by repeat (first | exact Sel.nil | apply Sel.cons (by repeat (first | exact .here | apply Take.there)))))
        · show x + 1 ≤ n; omega
        · show n - (x + 1) < n - x; omega
      · intro hc5
        obtain rfl : x = n := by omega
        refine J.exit ?_
        refine At.nextX ?_
        refine At.loopX ?_
        refine At.blkX ?_
        refine At.next ?_
        refine J.seq ?_
        refine J.region ?_
        refine JL.rd (Rd.ldB Try.isAgg51 Try.sizeOf51 (t4 rfl rfl) (by repeat (first | exact .own | exact .rd | apply Blk.there)) (by first | rfl | assumption | simp_all)) ?_
        refine JL.ef0 (Ef.stB Try.sizeOf51 (t7 rfl rfl) (t0 rfl) (by repeat (first | exact .here | apply Rep.there)) (by repeat (first | exact .own | exact .rd | apply Blk.there)) (by first | rfl | assumption | simp_all) (by first | rfl | assumption | simp_all) (by first | exact bv_one _ | exact cons_one rfl (bv_one _) | (simp [Value.oneCell']; done) | (simp [Value.oneCell', str]; done)) (by decide) ?_)
        refine JL.rd (Rd.assign Ev.c) ?_
        refine JL.nil ?_
        refine At.next ?_
        refine J.ret ?_
        refine At.demote (by repeat (first | exact .here | apply Take.there)) ?_
        exact At.ret ((ra, rc, none, 0)) (trivial) (ResV.many (rs := [.cell 2 51, .tmp 3]) rfl (.agg Try.isAgg51 Try.sizeOf51 (t8 rfl rfl) (by repeat (first | exact .own | exact .rd | apply Blk.there)) (by first | rfl | assumption | simp_all) (.tmp (t0 rfl) .nil)) (by simp)) rfl (fun _ s => by have s1 := rowR_nil (a := none) (s := 2) s; exact Stars.sel (by repeat (first | exact Sel.nil | apply Sel.cons (by repeat (first | exact .here | apply Take.there)))) s1)

set_option maxRecDepth 100000 in
set_option maxHeartbeats 400000 in
theorem rread_any (r1 r2 : Option Addr) (k1 k2 : Nat) (D : Dk) (hwf : D.wf) (i : Int) :
    Fn Try.prog 48 [refV r1 k1 r2 k2 D, .int .i64 i] [rowR r1 1 (durs D.n D.dur), rowR r2 2 (D.pend.map wcell)] (X := Unit) (fun _ => True) (fun _ => .tuple #[str (readB D i), .int .i64 (reachC D i)]) (fun _ => [rowR r1 1 (durs D.n D.dur), rowR r2 2 (D.pend.map wcell)]) := by
  refine Fn.mk' (n := 17) (l := [(0, refV r1 k1 r2 k2 D), (1, .int .i64 i)]) (fn := Try.f48) Try.func48 (by kernel_rfl) rfl rfl (by simp) rfl ?_
  intro h0 w0
  refine J.seq ?_
  refine J.region ?_
  refine JL.ef (Ef.box (t0 rfl) rfl ?_)
  intro b1
  refine JL.rd (Rd.assign Ev.c) ?_
  refine JL.rd (Rd.assign Ev.c) ?_
  refine JL.nil ?_
  refine At.next ?_
  refine J.seq ?_
  refine J.block ?_
  refine J.seq ?_
  refine J.region ?_
  refine JL.rd ((by first | exact Rd.fld0 fld_51_3 (t2 rfl rfl) | exact Rd.fld fld_51_3 (t2 rfl rfl))) ?_
  refine JL.rd (Rd.ldN Try.isAgg4 (t0 rfl) (by repeat (first | exact .own | exact .rd | apply Blk.there)) (by repeat (first | exact .zero | apply Nth.succ))) ?_
  refine JL.rd (Rd.assign (t0 rfl)) ?_
  refine JL.nil ?_
  refine At.next ?_
  refine J.cond (t0 rfl) ?_ ?_
  · intro hc2
    have hdn : D.down = true := hc2
    have hr : reachC D i = 29 := by simp [reachC, hdn]
    have hb : readB D i = [] := by simp [readB, hr]
    refine J.seq ?_
    refine J.region ?_
    refine JL.rd (Rd.assign Ev.c) ?_
    refine JL.rd (Rd.assign Ev.c) ?_
    refine JL.nil ?_
    refine At.next ?_
    refine J.ret ?_
    refine At.blkR ?_
    refine At.nextR ?_
    exact At.ret (()) (trivial) (ResV.two rfl (t1 rfl rfl) (t0 rfl)) (by rw [hb, hr]; rfl) (fun _ => Stars.sel (by repeat (first | exact Sel.nil | apply Sel.cons (by repeat (first | exact .here | apply Take.there)))))
  · intro hc2
    have hdn : D.down = false := hc2
    refine J.seq ?_
    refine J.region ?_
    refine JL.rd (Rd.ldB Try.isAgg51 Try.sizeOf51 (t5 rfl rfl) (by repeat (first | exact .own | exact .rd | apply Blk.there)) (by first | rfl | assumption | simp_all)) ?_
    refine JL.rd (Rd.move (t8 rfl rfl)) ?_
    refine JL.ef (Ef.call (.cons (t1 rfl rfl) (.cons (t0 rfl) .nil)) (is_any r1 r2 k1 k2 D hwf i) (by repeat (first | exact Sel.nil | apply Sel.cons (by repeat (first | exact .here | apply Take.there)))) ?_)
    rintro - -
    simp only [List.cons_append, List.nil_append]
    refine JL.rd (Rd.not (t0 rfl)) ?_
    refine JL.rd (Rd.assign (t0 rfl)) ?_
    refine JL.nil ?_
    refine At.next ?_
    refine J.cond (t0 rfl) ?_ ?_
    · intro hc3
      have hh : ¬ (0 ≤ i ∧ i < D.n) := by intro hh; simp [hh.1, hh.2] at hc3
      have hr : reachC D i = 8 := by simp [reachC, hdn]; omega
      have hb : readB D i = [] := by simp [readB, hr]
      refine J.seq ?_
      refine J.region ?_
      refine JL.rd (Rd.assign Ev.c) ?_
      refine JL.rd (Rd.assign Ev.c) ?_
      refine JL.nil ?_
      refine At.next ?_
      refine J.ret ?_
      refine At.blkR ?_
      refine At.nextR ?_
      exact At.ret (()) (trivial) (ResV.two rfl (t1 rfl rfl) (t0 rfl)) (by rw [hb, hr]; rfl) (fun _ => Stars.sel (by repeat (first | exact Sel.nil | apply Sel.cons (by repeat (first | exact .here | apply Take.there)))))
    · intro hc3
      have hh : 0 ≤ i ∧ i < D.n := by simpa using hc3
      have hr : reachC D i = 0 := by simp [reachC, hdn]; omega
      obtain ⟨k, rfl⟩ : ∃ k : Nat, i = (k : Int) := ⟨i.toNat, by omega⟩
      have hk : k < D.n := by omega
      have hb : readB D (k : Int) = D.vis k := by simp [readB, hr]
      refine J.skip ?_
      refine At.blkN ?_
      refine At.next ?_
      refine J.seq ?_
      refine J.region ?_
      refine JL.rd (Rd.ldB Try.isAgg51 Try.sizeOf51 (t10 rfl rfl) (by repeat (first | exact .own | exact .rd | apply Blk.there)) (by first | rfl | assumption | simp_all)) ?_
      refine JL.rd (Rd.move (t13 rfl rfl)) ?_
      refine JL.ef (Ef.call (.cons (t1 rfl rfl) (.cons (t0 rfl) .nil)) (rvis_any r1 r2 k1 k2 D hwf k hk) (by repeat (first | exact Sel.nil | apply Sel.cons (by repeat (first | exact .here | apply Take.there)))) ?_)
      rintro - -
      simp only [List.cons_append, List.nil_append]
      refine JL.rd (Rd.assign (t0 rfl)) ?_
      refine JL.rd (Rd.assign Ev.c) ?_
      refine JL.nil ?_
      refine At.next ?_
      refine J.ret ?_
      exact At.ret (()) (trivial) (ResV.two rfl (t1 rfl rfl) (t0 rfl)) (by rw [hb, hr]) (fun _ => Stars.sel (by repeat (first | exact Sel.nil | apply Sel.cons (by repeat (first | exact .here | apply Take.there)))))
end Go.Proofs.Ytfnoaohbjlnkgaa
