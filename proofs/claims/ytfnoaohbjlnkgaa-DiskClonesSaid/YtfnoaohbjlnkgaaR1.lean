/-
  Walks, printed by mk.py.
-/
import Derived.Test.YtfnoaohbjlnkgaaR0
namespace Go.Proofs.Ytfnoaohbjlnkgaa
attribute [local irreducible] J JL At Rd Ef DNew DCar DRun Then RetQ LoopQ


set_option maxRecDepth 100000 in
set_option maxHeartbeats 400000 in
theorem count_any (r1 r2 : Option Addr) (k1 k2 : Nat) (D : Dk) (hwf : D.wf) (ho : D.ops < 1099511627776) :
    Fn Try.prog 45 [refV r1 k1 r2 k2 D] [rowR r1 1 (durs D.n D.dur), rowR r2 2 (D.pend.map wcell)] (X := Unit) (fun _ => True) (fun _ => .tuple #[refV r1 k1 r2 k2 D.operated, .int .i64 (operC D)]) (fun _ => [rowR r1 1 (durs D.n D.dur), rowR r2 2 (D.pend.map wcell)]) := by
  refine Fn.mk' (n := 21) (l := [(0, refV r1 k1 r2 k2 D)]) (fn := Try.f45) Try.func45 (by kernel_rfl) rfl rfl (by simp) rfl ?_
  intro h0 w0
  have hl1 := hwf.lim1
  have hl2 := hwf.lim2
  refine J.seq ?_
  refine J.region ?_
  refine JL.ef (Ef.box (t0 rfl) rfl ?_)
  intro b1
  refine JL.ef (Ef.alloc Try.zeroValue51 rfl ?_)
  intro b2
  refine JL.rd (Rd.assign Ev.c) ?_
  refine JL.nil ?_
  refine At.next ?_
  refine J.seq ?_
  refine J.seq ?_
  refine J.region ?_
  refine JL.rd ((by first | exact Rd.fld0 fld_51_2 (t2 rfl rfl) | exact Rd.fld fld_51_2 (t2 rfl rfl))) ?_
  refine JL.rd (Rd.ldN Try.isAgg3 (t0 rfl) (by repeat (first | exact .own | exact .rd | apply Blk.there)) (by repeat (first | exact .zero | apply Nth.succ))) ?_
  refine JL.rd (Rd.eql (t0 rfl) Ev.c) ?_
  refine JL.nil ?_
  refine At.next ?_
  refine J.condD (t0 rfl) ?_ ?_
  · intro hc3
    refine J.seq ?_
    refine J.region ?_
    refine JL.rd ((by first | exact Rd.fld0 fld_51_3 (t5 rfl rfl) | exact Rd.fld fld_51_3 (t5 rfl rfl))) ?_
    refine JL.ef0 (Ef.st Try.sizeOf4 (t0 rfl) Ev.c rfl (by repeat (first | exact .here | apply Rep.there)) (by repeat (first | exact .own | exact .rd | apply Blk.there)) (by repeat (first | exact .zero | apply SetN.succ)) (by first | rfl | simp) ?_)
    refine JL.nil ?_
    refine At.next ?_
    refine J.seq ?_
    refine J.region ?_
    refine JL.rd (Rd.ldB Try.isAgg51 Try.sizeOf51 (t6 rfl rfl) (by repeat (first | exact .own | exact .rd | apply Blk.there)) (by first | rfl | assumption | simp_all)) ?_
    refine JL.ef0 (Ef.stB Try.sizeOf51 (t6 rfl rfl) (t0 rfl) (by repeat (first | exact .here | apply Rep.there)) (by repeat (first | exact .own | exact .rd | apply Blk.there)) (by first | rfl | assumption | simp_all) (by first | rfl | assumption | simp_all) (by first | exact bv_one _ | exact cons_one rfl (bv_one _) | (simp [Value.oneCell']; done) | (simp [Value.oneCell', str]; done)) (by decide) ?_)
    refine JL.rd (Rd.assign Ev.c) ?_
    refine JL.nil ?_
    refine At.next ?_
    refine J.ret ?_
    refine At.nextR ?_
    exact At.ret (()) (trivial) (ResV.many (rs := [.cell 2 51, .tmp 3]) rfl (.agg Try.isAgg51 Try.sizeOf51 (t7 rfl rfl) (by repeat (first | exact .own | exact .rd | apply Blk.there)) (by first | rfl | assumption | simp_all) (.tmp (t0 rfl) .nil)) (by simp)) (by simp [refV, Dk.operated, operC, *]) (fun _ => Stars.sel (by repeat (first | exact Sel.nil | apply Sel.cons (by repeat (first | exact .here | apply Take.there)))))
  · intro hc3
    refine J.skip ?_
    refine At.next ?_
    refine J.seq ?_
    refine J.seq ?_
    refine J.region ?_
    refine JL.rd ((by first | exact Rd.fld0 fld_51_2 (t5 rfl rfl) | exact Rd.fld fld_51_2 (t5 rfl rfl))) ?_
    refine JL.rd (Rd.ldN Try.isAgg3 (t0 rfl) (by repeat (first | exact .own | exact .rd | apply Blk.there)) (by repeat (first | exact .zero | apply Nth.succ))) ?_
    refine JL.rd (Rd.gtr (t0 rfl) Ev.c) ?_
    refine JL.nil ?_
    refine At.next ?_
    refine J.condD (t0 rfl) ?_ ?_
    · intro hc4
      refine J.region ?_
      refine JL.rd ((by first | exact Rd.fld0 fld_51_2 (t8 rfl rfl) | exact Rd.fld fld_51_2 (t8 rfl rfl))) ?_
      refine JL.rd (Rd.ldN Try.isAgg3 (t0 rfl) (by repeat (first | exact .own | exact .rd | apply Blk.there)) (by repeat (first | exact .zero | apply Nth.succ))) ?_
      refine JL.rd (Rd.sub (t0 rfl) Ev.c (w64 (by omega) (by omega))) ?_
      refine JL.rd ((by first | exact Rd.fld0 fld_51_2 (t11 rfl rfl) | exact Rd.fld fld_51_2 (t11 rfl rfl))) ?_
      refine JL.ef0 (Ef.st Try.sizeOf3 (t0 rfl) (t1 rfl rfl) rfl (by repeat (first | exact .here | apply Rep.there)) (by repeat (first | exact .own | exact .rd | apply Blk.there)) (by repeat (first | exact .zero | apply SetN.succ)) (by first | rfl | simp) ?_)
      refine JL.nil ?_
      refine At.next ?_
      refine J.seq ?_
      refine J.region ?_
      refine JL.rd ((by first | exact Rd.fld0 fld_51_4 (t12 rfl rfl) | exact Rd.fld fld_51_4 (t12 rfl rfl))) ?_
      refine JL.rd (Rd.ldN Try.isAgg3 (t0 rfl) (by repeat (first | exact .own | exact .rd | apply Blk.there)) (by repeat (first | exact .zero | apply Nth.succ))) ?_
      refine JL.rd (Rd.add (t0 rfl) Ev.c (w64 (by omega) (by omega))) ?_
      refine JL.rd ((by first | exact Rd.fld0 fld_51_4 (t15 rfl rfl) | exact Rd.fld fld_51_4 (t15 rfl rfl))) ?_
      refine JL.ef0 (Ef.st Try.sizeOf3 (t0 rfl) (t1 rfl rfl) rfl (by repeat (first | exact .here | apply Rep.there)) (by repeat (first | exact .own | exact .rd | apply Blk.there)) (by repeat (first | exact .zero | apply SetN.succ)) (by first | rfl | simp) ?_)
      refine JL.nil ?_
      refine At.next ?_
      refine J.seq ?_
      refine J.region ?_
      refine JL.rd (Rd.ldB Try.isAgg51 Try.sizeOf51 (t16 rfl rfl) (by repeat (first | exact .own | exact .rd | apply Blk.there)) (by first | rfl | assumption | simp_all)) ?_
      refine JL.ef0 (Ef.stB Try.sizeOf51 (t16 rfl rfl) (t0 rfl) (by repeat (first | exact .here | apply Rep.there)) (by repeat (first | exact .own | exact .rd | apply Blk.there)) (by first | rfl | assumption | simp_all) (by first | rfl | assumption | simp_all) (by first | exact bv_one _ | exact cons_one rfl (bv_one _) | (simp [Value.oneCell']; done) | (simp [Value.oneCell', str]; done)) (by decide) ?_)
      refine JL.rd (Rd.assign Ev.c) ?_
      refine JL.nil ?_
      refine At.next ?_
      refine J.ret ?_
      exact At.ret (()) (trivial) (ResV.many (rs := [.cell 2 51, .tmp 3]) rfl (.agg Try.isAgg51 Try.sizeOf51 (t17 rfl rfl) (by repeat (first | exact .own | exact .rd | apply Blk.there)) (by first | rfl | assumption | simp_all) (.tmp (t0 rfl) .nil)) (by simp)) (by have h0 : ¬ D.lim = 0 := (by omega); have h1 : max (D.lim - 1) (-1) = D.lim - 1 := (by omega); simp [refV, Dk.operated, operC, h0, h1]) (fun _ => Stars.sel (by repeat (first | exact Sel.nil | apply Sel.cons (by repeat (first | exact .here | apply Take.there)))))
    · intro hc4
      refine J.skip ?_
      refine At.next ?_
      refine J.seq ?_
      refine J.region ?_
      refine JL.rd ((by first | exact Rd.fld0 fld_51_4 (t8 rfl rfl) | exact Rd.fld fld_51_4 (t8 rfl rfl))) ?_
      refine JL.rd (Rd.ldN Try.isAgg3 (t0 rfl) (by repeat (first | exact .own | exact .rd | apply Blk.there)) (by repeat (first | exact .zero | apply Nth.succ))) ?_
      refine JL.rd (Rd.add (t0 rfl) Ev.c (w64 (by omega) (by omega))) ?_
      refine JL.rd ((by first | exact Rd.fld0 fld_51_4 (t11 rfl rfl) | exact Rd.fld fld_51_4 (t11 rfl rfl))) ?_
      refine JL.ef0 (Ef.st Try.sizeOf3 (t0 rfl) (t1 rfl rfl) rfl (by repeat (first | exact .here | apply Rep.there)) (by repeat (first | exact .own | exact .rd | apply Blk.there)) (by repeat (first | exact .zero | apply SetN.succ)) (by first | rfl | simp) ?_)
      refine JL.nil ?_
      refine At.next ?_
      refine J.seq ?_
      refine J.region ?_
      refine JL.rd (Rd.ldB Try.isAgg51 Try.sizeOf51 (t12 rfl rfl) (by repeat (first | exact .own | exact .rd | apply Blk.there)) (by first | rfl | assumption | simp_all)) ?_
      refine JL.ef0 (Ef.stB Try.sizeOf51 (t12 rfl rfl) (t0 rfl) (by repeat (first | exact .here | apply Rep.there)) (by repeat (first | exact .own | exact .rd | apply Blk.there)) (by first | rfl | assumption | simp_all) (by first | rfl | assumption | simp_all) (by first | exact bv_one _ | exact cons_one rfl (bv_one _) | (simp [Value.oneCell']; done) | (simp [Value.oneCell', str]; done)) (by decide) ?_)
      refine JL.rd (Rd.assign Ev.c) ?_
      refine JL.nil ?_
      refine At.next ?_
      refine J.ret ?_
      exact At.ret (()) (trivial) (ResV.many (rs := [.cell 2 51, .tmp 3]) rfl (.agg Try.isAgg51 Try.sizeOf51 (t13 rfl rfl) (by repeat (first | exact .own | exact .rd | apply Blk.there)) (by first | rfl | assumption | simp_all) (.tmp (t0 rfl) .nil)) (by simp)) (by have h0 : ¬ D.lim = 0 := (by omega); have h1 : max (D.lim - 1) (-1) = D.lim := (by omega); simp [refV, Dk.operated, operC, h0, h1]) (fun _ => Stars.sel (by repeat (first | exact Sel.nil | apply Sel.cons (by repeat (first | exact .here | apply Take.there)))))

set_option maxRecDepth 100000 in
set_option maxHeartbeats 400000 in
theorem is_any (r1 r2 : Option Addr) (k1 k2 : Nat) (D : Dk) (hwf : D.wf) (i : Int) :
    Fn Try.prog 59 [refV r1 k1 r2 k2 D, .int .i64 i] [rowR r1 1 (durs D.n D.dur), rowR r2 2 (D.pend.map wcell)] (X := Unit) (fun _ => True) (fun _ => .bool (decide (0 ≤ i ∧ i < D.n))) (fun _ => [rowR r1 1 (durs D.n D.dur), rowR r2 2 (D.pend.map wcell)]) := by
  refine Fn.mk' (n := 14) (l := [(0, refV r1 k1 r2 k2 D), (1, .int .i64 i)]) (fn := Try.f59) Try.func59 (by kernel_rfl) rfl rfl (by simp) rfl ?_
  intro h0 w0
  refine J.seq ?_
  refine J.region ?_
  refine JL.ef (Ef.box (t0 rfl) rfl ?_)
  intro b1
  refine JL.rd (Rd.assign Ev.c) ?_
  refine JL.nil ?_
  refine At.next ?_
  refine J.seq ?_
  refine J.region ?_
  refine JL.rd (Rd.move (t3 rfl rfl)) ?_
  refine JL.rd (Rd.geq (t0 rfl) Ev.c) ?_
  refine JL.rd (Rd.move (t0 rfl)) ?_
  refine JL.caseD (t0 rfl) ?_ ?_
  · intro hb2p hb2
    refine JL.rdG rfl (EvB (t0 rfl) hb2) rfl (Rd.move (t6 rfl rfl)) ?_
    refine JL.rdG rfl (EvB (t1 rfl rfl) hb2) rfl ((by first | exact Rd.fld0 fld_51_0 (t5 rfl rfl) | exact Rd.fldz fld_51_0 (t5 rfl rfl))) ?_
    refine JL.rdG rfl (EvB (t2 rfl rfl) hb2) rfl (Rd.ldN Try.isAgg48 (t0 rfl) (by repeat (first | exact .own | exact .rd | apply Blk.there)) (by repeat (first | exact .zero | apply Nth.succ))) ?_
    refine JL.rdG rfl (EvB (t3 rfl rfl) hb2) rfl (Rd.len Try.runUnderlying48 (t0 rfl)) ?_
    refine JL.rdG rfl (EvB (t4 rfl rfl) hb2) rfl (Rd.lss (t3 rfl rfl) (t0 rfl)) ?_
    refine JL.rd (Rd.pickT (EvB (t5 rfl rfl) hb2) (t0 rfl)) ?_
    refine JL.rd (Rd.assign (t0 rfl)) ?_
    refine JL.nil ?_
    refine At.next ?_
    refine J.ret ?_
    exact At.ret (()) (trivial) (ResV.one rfl (t0 rfl)) (by simp at *; omega) (fun _ => Stars.sel (by repeat (first | exact Sel.nil | apply Sel.cons (by repeat (first | exact .here | apply Take.there)))))
  · intro hb2p hb2
    refine JL.skG rfl (EvB (t0 rfl) hb2) rfl ?_
    refine JL.skG rfl (EvB (t1 rfl rfl) hb2) rfl ?_
    refine JL.skG rfl (EvB (t2 rfl rfl) hb2) rfl ?_
    refine JL.skG rfl (EvB (t3 rfl rfl) hb2) rfl ?_
    refine JL.skG rfl (EvB (t4 rfl rfl) hb2) rfl ?_
    refine JL.rd (Rd.pickF (EvB (t5 rfl rfl) hb2) Ev.c) ?_
    refine JL.rd (Rd.assign (t0 rfl)) ?_
    refine JL.nil ?_
    refine At.next ?_
    refine J.ret ?_
    exact At.ret (()) (trivial) (ResV.one rfl (t0 rfl)) (by simp at *; omega) (fun _ => Stars.sel (by repeat (first | exact Sel.nil | apply Sel.cons (by repeat (first | exact .here | apply Take.there)))))

set_option maxRecDepth 100000 in
set_option maxHeartbeats 400000 in
theorem rvis_any (r1 r2 : Option Addr) (k1 k2 : Nat) (D : Dk) (hwf : D.wf) (i : Nat) (hi : i < D.n) :
    Fn Try.prog 30 [refV r1 k1 r2 k2 D, .int .i64 (i : Int)] [rowR r1 1 (durs D.n D.dur), rowR r2 2 (D.pend.map wcell)] (X := Unit) (fun _ => True) (fun _ => str (D.vis i)) (fun _ => [rowR r1 1 (durs D.n D.dur), rowR r2 2 (D.pend.map wcell)]) := by
  refine Fn.mk' (n := 34) (l := [(0, refV r1 k1 r2 k2 D), (1, .int .i64 (i : Int))]) (fn := Try.f30) Try.func30 (by kernel_rfl) rfl rfl (by simp) rfl ?_
  intro h0 w0
  have hlen := hwf.plen
  have hn2 := hwf.n2
  have hn1 := hwf.n1
  have hdg := durs_get (dur := D.dur) hi
  refine J.seq ?_
  refine J.region ?_
  refine JL.ef (Ef.box (t0 rfl) rfl ?_)
  intro b1
  refine JL.rd (Rd.assign Ev.c) ?_
  refine JL.nil ?_
  refine At.next ?_
  refine J.seq ?_
  refine J.region ?_
  refine JL.rd ((by first | exact Rd.fld0 fld_51_0 (t1 rfl rfl) | exact Rd.fldz fld_51_0 (t1 rfl rfl))) ?_
  refine JL.rd (Rd.ldN Try.isAgg48 (t0 rfl) (by repeat (first | exact .own | exact .rd | apply Blk.there)) (by repeat (first | exact .zero | apply Nth.succ))) ?_
  refine JL.rd (Rd.move (t5 rfl rfl)) ?_
  refine JL.rd (Rd.sIdx Try.runUnderlying48 Try.sizeOf9 (t1 rfl rfl) (t0 rfl) (SIn.rowR (by repeat (first | exact .here | apply Take.there))) (by simp) (by omega) (by omega)) ?_
  refine JL.rd (Rd.sLd Try.isAgg9 (t0 rfl) (SIn.rowR (by repeat (first | exact .here | apply Take.there))) (by rw [Int.toNat_natCast]; exact hdg) rfl) ?_
  refine JL.rd (Rd.assign (t0 rfl)) ?_
  refine JL.nil ?_
  refine At.next ?_
  refine J.seq ?_
  refine J.seq ?_
  refine J.region ?_
  refine JL.rd (Rd.assign Ev.c) ?_
  refine JL.nil ?_
  refine At.next ?_
  refine J.block ?_
  refine J.loop (X := Nat) (fun (x : Nat) => [(5, str (visL i (D.dur i) (D.pend.take x))), (6, .int .i64 (x : Int))]) (K := [(4, _), (2, _), (1, _)]) (fun x => [pts b1 (.cells [Value.slice r1 D.n k1, .slice r2 D.pend.length k2, .int .i64 D.lim, .bool D.down, .int .i64 D.ops].toArray 51), rowR r1 1 (durs D.n D.dur), rowR r2 2 (D.pend.map wcell)]) (fun x => x ≤ D.pend.length) (fun x => D.pend.length - x) (0) ?_ ⟨(lk1 rfl).trans (by first | (rw [he]; done) | with_reducible rfl | (congr 1; omega) | (simp; done) | (simp [*]; done)), lk0.trans (by first | (rw [he]; done) | with_reducible rfl | (congr 1; omega) | (simp; done) | (simp [*]; done)), trivial⟩ ⟨(lk7 rfl), (lk8 rfl), (lk10 rfl), trivial⟩ (fun _ => Stars.sel (by repeat (first | exact Sel.nil | apply Sel.cons (by repeat (first | exact .here | apply Take.there))))) ?_
  · omega
  intro x ρ hp
  simp only [List.cons_append, List.nil_append]
  refine J.seq ?_
  refine J.seq ?_
  refine J.region ?_
  refine JL.rd (Rd.move (t1 rfl rfl)) ?_
  refine JL.rd ((by first | exact Rd.fld0 fld_51_1 (t4 rfl rfl) | exact Rd.fld fld_51_1 (t4 rfl rfl))) ?_
  refine JL.rd (Rd.ldN Try.isAgg49 (t0 rfl) (by repeat (first | exact .own | exact .rd | apply Blk.there)) (by repeat (first | exact .zero | apply Nth.succ))) ?_
  refine JL.rd (Rd.len Try.runUnderlying49 (t0 rfl)) ?_
  refine JL.rd (Rd.lss (t3 rfl rfl) (t0 rfl)) ?_
  refine JL.nil ?_
  refine At.next ?_
  refine J.condD (t0 rfl) ?_ ?_
  · intro hc2
    obtain ⟨p, hp⟩ : ∃ p, D.pend[x]? = some p := ⟨_, List.getElem?_eq_getElem (by omega)⟩
    have hx : (D.pend.map wcell)[(x : Int).toNat]? = some [.int .i64 (p.1 : Int), str p.2] := by rw [Int.toNat_natCast]; exact wcells_get hp
    have hx2 : (x : Int).toNat < (D.pend.map wcell).length := by simp; omega
    have htk : D.pend.take (x + 1) = D.pend.take x ++ [p] := by rw [List.take_succ_eq_append_getElem (by omega)]; congr 2; exact (List.getElem?_eq_some_iff.1 hp).2
    refine J.skip ?_
    refine At.next ?_
    refine J.seq ?_
    refine J.block ?_
    refine J.seq ?_
    refine J.region ?_
    refine JL.rd ((by first | exact Rd.fld0 fld_51_1 (t8 rfl rfl) | exact Rd.fld fld_51_1 (t8 rfl rfl))) ?_
    refine JL.rd (Rd.ldN Try.isAgg49 (t0 rfl) (by repeat (first | exact .own | exact .rd | apply Blk.there)) (by repeat (first | exact .zero | apply Nth.succ))) ?_
    refine JL.rd (Rd.move (t8 rfl rfl)) ?_
    refine JL.rd (Rd.sIdx Try.runUnderlying49 Try.sizeOf65 (t1 rfl rfl) (t0 rfl) (SIn.rowR (by repeat (first | exact .here | apply Take.there))) (by simp) (by omega) (by omega)) ?_
    refine JL.rd (Rd.sFld0 fld_65_0 (t0 rfl) (SIn.rowR (by repeat (first | exact .here | apply Take.there))) hx2) ?_
    refine JL.rd (Rd.sLd Try.isAgg3 (t0 rfl) (SIn.rowR (by repeat (first | exact .here | apply Take.there))) hx rfl) ?_
    refine JL.rd (Rd.move (t15 rfl rfl)) ?_
    refine JL.rd (Rd.eql (t1 rfl rfl) (t0 rfl)) ?_
    refine JL.nil ?_
    refine At.next ?_
    refine J.condD (t0 rfl) ?_ ?_
    · intro hc3
      have he : visL i (D.dur i) (D.pend.take (x + 1)) = p.2 := by rw [htk, visL_append]; exact if_pos (by omega)
      refine J.region ?_
      refine JL.rd ((by first | exact Rd.fld0 fld_51_1 (t16 rfl rfl) | exact Rd.fld fld_51_1 (t16 rfl rfl))) ?_
      refine JL.rd (Rd.ldN Try.isAgg49 (t0 rfl) (by repeat (first | exact .own | exact .rd | apply Blk.there)) (by repeat (first | exact .zero | apply Nth.succ))) ?_
      refine JL.rd (Rd.move (t16 rfl rfl)) ?_
      refine JL.rd (Rd.sIdx Try.runUnderlying49 Try.sizeOf65 (t1 rfl rfl) (t0 rfl) (SIn.rowR (by repeat (first | exact .here | apply Take.there))) (by simp) (by omega) (by omega)) ?_
      refine JL.rd (Rd.sFld0 fld_65_1 (t0 rfl) (SIn.rowR (by repeat (first | exact .here | apply Take.there))) hx2) ?_
      refine JL.rd (Rd.sLd Try.isAgg9 (t0 rfl) (SIn.rowR (by repeat (first | exact .here | apply Take.there))) hx rfl) ?_
      refine JL.rd (Rd.assign (t0 rfl)) ?_
      refine JL.nil ?_
      refine At.blkN ?_
      refine At.next ?_
      refine J.region ?_
      refine JL.rd (Rd.move (t21 rfl rfl)) ?_
      refine JL.rd (Rd.add (t0 rfl) Ev.c (w64 (by omega) (by omega))) ?_
      refine JL.rd (Rd.assign (t0 rfl)) ?_
      refine JL.nil ?_
      refine At.again (x + 1) ?_ ?_ ⟨(lk3 rfl).trans (by first | (rw [he]; done) | with_reducible rfl | (congr 1; omega) | (simp; done) | (simp [*]; done)), lk0.trans (by first | (rw [he]; done) | with_reducible rfl | (congr 1; omega) | (simp; done) | (simp [*]; done)), trivial⟩ ⟨(lk25 rfl), (lk26 rfl), (lk27 rfl), trivial⟩ (fun _ => Stars.sel (by repeat (first | exact Sel.nil | apply Sel.cons (by repeat (first | exact .here | apply Take.there)))))
      · omega
      · omega
    · intro hc3
      have he : visL i (D.dur i) (D.pend.take (x + 1)) = visL i (D.dur i) (D.pend.take x) := by rw [htk, visL_append]; exact if_neg (by omega)
      refine J.skip ?_
      refine At.blkN ?_
      refine At.next ?_
      refine J.region ?_
      refine JL.rd (Rd.move (t14 rfl rfl)) ?_
      refine JL.rd (Rd.add (t0 rfl) Ev.c (w64 (by omega) (by omega))) ?_
      refine JL.rd (Rd.assign (t0 rfl)) ?_
      refine JL.nil ?_
      refine At.again (x + 1) ?_ ?_ ⟨(lk16 rfl).trans (by first | (rw [he]; done) | with_reducible rfl | (congr 1; omega) | (simp; done) | (simp [*]; done)), lk0.trans (by first | (rw [he]; done) | with_reducible rfl | (congr 1; omega) | (simp; done) | (simp [*]; done)), trivial⟩ ⟨(lk18 rfl), (lk19 rfl), (lk20 rfl), trivial⟩ (fun _ => Stars.sel (by repeat (first | exact Sel.nil | apply Sel.cons (by repeat (first | exact .here | apply Take.there)))))
      · omega
      · omega
  · intro hc2
    obtain rfl : x = D.pend.length := by omega
    refine J.exit ?_
    refine At.nextX ?_
    refine At.loopX ?_
    refine At.blkX ?_
    refine At.next ?_
    refine J.seq ?_
    refine J.region ?_
    refine JL.rd (Rd.move (t5 rfl rfl)) ?_
    refine JL.rd (Rd.assign (t0 rfl)) ?_
    refine JL.nil ?_
    refine At.next ?_
    refine J.ret ?_
    exact At.ret (()) (trivial) (ResV.one rfl (t0 rfl)) (by rw [List.take_length]; rfl) (fun _ => Stars.sel (by repeat (first | exact Sel.nil | apply Sel.cons (by repeat (first | exact .here | apply Take.there)))))
end Go.Proofs.Ytfnoaohbjlnkgaa
