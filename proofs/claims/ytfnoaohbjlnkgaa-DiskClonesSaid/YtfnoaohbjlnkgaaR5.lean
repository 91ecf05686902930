/-
  Walks, printed by mk.py.
-/
import Derived.Test.YtfnoaohbjlnkgaaR4
namespace Go.Proofs.Ytfnoaohbjlnkgaa
attribute [local irreducible] J JL At Rd Ef DNew DCar DRun Then RetQ LoopQ


set_option maxRecDepth 100000 in
set_option maxHeartbeats 400000 in
theorem rdamage_any (r1 r2 : Option Addr) (k1 k2 : Nat) (D : Dk) (hwf : D.wf) (i j : Int) (c : UInt8) :
    Fn Try.prog 50 [refV r1 k1 r2 k2 D, .int .i64 i, .int .i64 j, .int .u8 (c.toNat : Int)] [rowR r1 1 (durs D.n D.dur), rowR r2 2 (D.pend.map wcell)] (X := Option Addr × Nat × Option Addr × Nat) (fun _ => True) (fun x => .tuple #[refV x.1 x.2.1 x.2.2.1 x.2.2.2 (damD D i j c), .int .i64 (damC D i j)]) (fun x => [rowR x.1 1 (durs (damD D i j c).n (damD D i j c).dur), rowR x.2.2.1 2 ((damD D i j c).pend.map wcell)]) := by
  refine Fn.mk' (n := 77) (l := [(0, refV r1 k1 r2 k2 D), (1, .int .i64 i), (2, .int .i64 j), (3, .int .u8 (c.toNat : Int))]) (fn := Try.f50) Try.func50 (by kernel_rfl) rfl rfl (by simp) rfl ?_
  intro h0 w0
  have hlen := hwf.plen
  have hn2 := hwf.n2
  have hn1 := hwf.n1
  refine J.seq ?_
  refine J.region ?_
  refine JL.ef (Ef.box (t0 rfl) rfl ?_)
  intro b1
  refine JL.ef (Ef.alloc Try.zeroValue51 rfl ?_)
  intro b2
  refine JL.rd (Rd.assign Ev.c) ?_
  refine JL.nil ?_
  refine At.next ?_
  refine J.seq ?_
  refine J.block ?_
  refine J.seq ?_
  refine J.region ?_
  refine JL.rd (Rd.ldB Try.isAgg51 Try.sizeOf51 (t2 rfl rfl) (by repeat (first | exact .own | exact .rd | apply Blk.there)) (by first | rfl | assumption | simp_all)) ?_
  refine JL.rd (Rd.move (t5 rfl rfl)) ?_
  refine JL.ef (Ef.call (.cons (t1 rfl rfl) (.cons (t0 rfl) .nil)) (is_any r1 r2 k1 k2 D hwf i) (by repeat (first | exact Sel.nil | apply Sel.cons (by repeat (first | exact .here | apply Take.there)))) ?_)
  rintro - -
  simp only [List.cons_append, List.nil_append]
  refine JL.rd (Rd.not (t0 rfl)) ?_
  refine JL.rd (Rd.assign (t0 rfl)) ?_
  refine JL.nil ?_
  refine At.next ?_
  refine J.cond (t0 rfl) ?_ ?_
  · intro hc3
    have hh : ¬ (0 ≤ i ∧ i < D.n) := by intro hh; simp [hh.1, hh.2] at hc3
    refine J.seq ?_
    refine J.region ?_
    refine JL.rd (Rd.ldB Try.isAgg51 Try.sizeOf51 (t7 rfl rfl) (by repeat (first | exact .own | exact .rd | apply Blk.there)) (by first | rfl | assumption | simp_all)) ?_
    refine JL.ef0 (Ef.stB Try.sizeOf51 (t7 rfl rfl) (t0 rfl) (by repeat (first | exact .here | apply Rep.there)) (by repeat (first | exact .own | exact .rd | apply Blk.there)) (by first | rfl | assumption | simp_all) (by first | rfl | assumption | simp_all) (by first | exact bv_one _ | exact cons_one rfl (bv_one _) | (simp [Value.oneCell']; done) | (simp [Value.oneCell', str]; done)) (by decide) ?_)
    refine JL.rd (Rd.assign Ev.c) ?_
    refine JL.nil ?_
    refine At.next ?_
    refine J.ret ?_
    refine At.blkR ?_
    refine At.nextR ?_
    exact At.ret ((r1, k1, r2, k2)) (trivial) (ResV.many (rs := [.cell 8 51, .tmp 9]) rfl (.agg Try.isAgg51 Try.sizeOf51 (t8 rfl rfl) (by repeat (first | exact .own | exact .rd | apply Blk.there)) (by first | rfl | assumption | simp_all) (.tmp (t0 rfl) .nil)) (by simp)) (by have hN : damC D i j ≠ 0 := (by unfold damC; first | (rw [if_pos (by omega)]; decide) | (rw [if_neg (by omega), if_pos (by omega)]; decide)); have hW : damD D i j c = D := (by simp [damD, hN]); rw [hW]; have hC : damC D i j = 8 := (by unfold damC; first | (rw [if_pos (by omega)]; done) | (rw [if_neg (by omega), if_pos (by omega)]; done)); rw [hC]) (fun _ st => by have hN : damC D i j ≠ 0 := (by unfold damC; first | (rw [if_pos (by omega)]; decide) | (rw [if_neg (by omega), if_pos (by omega)]; decide)); have hW : damD D i j c = D := (by simp [damD, hN]); rw [hW]; exact Stars.sel (by repeat (first | exact Sel.nil | apply Sel.cons (by repeat (first | exact .here | apply Take.there)))) st)
  · intro hc3
    have hh : 0 ≤ i ∧ i < D.n := by simpa using hc3
    refine J.seq ?_
    refine J.region ?_
    refine JL.rd (Rd.move (t10 rfl rfl)) ?_
    refine JL.rd (Rd.lss (t0 rfl) Ev.c) ?_
    refine JL.rd (Rd.move (t0 rfl)) ?_
    refine JL.caseD (t0 rfl) ?_ ?_
    · intro hb4p hb4
      refine JL.skG rfl (EvB (t0 rfl) hb4) rfl ?_
      refine JL.skG rfl (EvB (t1 rfl rfl) hb4) rfl ?_
      refine JL.rd (Rd.pickT (EvB (t2 rfl rfl) hb4) Ev.c) ?_
      refine JL.rd (Rd.assign (t0 rfl)) ?_
      refine JL.nil ?_
      refine At.next ?_
      refine J.condT (t0 rfl) ?_
      refine J.seq ?_
      refine J.region ?_
      refine JL.rd (Rd.ldB Try.isAgg51 Try.sizeOf51 (t14 rfl rfl) (by repeat (first | exact .own | exact .rd | apply Blk.there)) (by first | rfl | assumption | simp_all)) ?_
      refine JL.ef0 (Ef.stB Try.sizeOf51 (t14 rfl rfl) (t0 rfl) (by repeat (first | exact .here | apply Rep.there)) (by repeat (first | exact .own | exact .rd | apply Blk.there)) (by first | rfl | assumption | simp_all) (by first | rfl | assumption | simp_all) (by first | exact bv_one _ | exact cons_one rfl (bv_one _) | (simp [Value.oneCell']; done) | (simp [Value.oneCell', str]; done)) (by decide) ?_)
      refine JL.rd (Rd.assign Ev.c) ?_
      refine JL.nil ?_
      refine At.next ?_
      refine J.ret ?_
      refine At.blkR ?_
      refine At.nextR ?_
      exact At.ret ((r1, k1, r2, k2)) (trivial) (ResV.many (rs := [.cell 8 51, .tmp 9]) rfl (.agg Try.isAgg51 Try.sizeOf51 (t15 rfl rfl) (by repeat (first | exact .own | exact .rd | apply Blk.there)) (by first | rfl | assumption | simp_all) (.tmp (t0 rfl) .nil)) (by simp)) (by have hN : damC D i j ≠ 0 := (by unfold damC; first | (rw [if_pos (by omega)]; decide) | (rw [if_neg (by omega), if_pos (by omega)]; decide)); have hW : damD D i j c = D := (by simp [damD, hN]); rw [hW]; have hC : damC D i j = 2 := (by unfold damC; first | (rw [if_pos (by omega)]; done) | (rw [if_neg (by omega), if_pos (by omega)]; done)); rw [hC]) (fun _ st => by have hN : damC D i j ≠ 0 := (by unfold damC; first | (rw [if_pos (by omega)]; decide) | (rw [if_neg (by omega), if_pos (by omega)]; decide)); have hW : damD D i j c = D := (by simp [damD, hN]); rw [hW]; exact Stars.sel (by repeat (first | exact Sel.nil | apply Sel.cons (by repeat (first | exact .here | apply Take.there)))) st)
    · intro hb4p hb4
      refine JL.rdG rfl (EvB (t0 rfl) hb4) rfl (Rd.move (t13 rfl rfl)) ?_
      refine JL.rdG rfl (EvB (t1 rfl rfl) hb4) rfl (Rd.geq (t0 rfl) Ev.c) ?_
      refine JL.rd (Rd.pickF (EvB (t2 rfl rfl) hb4) (t0 rfl)) ?_
      refine JL.rd (Rd.assign (t0 rfl)) ?_
      refine JL.nil ?_
      refine At.next ?_
      refine J.condD (t0 rfl) ?_ ?_
      · intro hc5
        refine J.seq ?_
        refine J.region ?_
        refine JL.rd (Rd.ldB Try.isAgg51 Try.sizeOf51 (t14 rfl rfl) (by repeat (first | exact .own | exact .rd | apply Blk.there)) (by first | rfl | assumption | simp_all)) ?_
        refine JL.ef0 (Ef.stB Try.sizeOf51 (t14 rfl rfl) (t0 rfl) (by repeat (first | exact .here | apply Rep.there)) (by repeat (first | exact .own | exact .rd | apply Blk.there)) (by first | rfl | assumption | simp_all) (by first | rfl | assumption | simp_all) (by first | exact bv_one _ | exact cons_one rfl (bv_one _) | (simp [Value.oneCell']; done) | (simp [Value.oneCell', str]; done)) (by decide) ?_)
        refine JL.rd (Rd.assign Ev.c) ?_
        refine JL.nil ?_
        refine At.next ?_
        refine J.ret ?_
        refine At.blkR ?_
        refine At.nextR ?_
        exact At.ret ((r1, k1, r2, k2)) (trivial) (ResV.many (rs := [.cell 8 51, .tmp 9]) rfl (.agg Try.isAgg51 Try.sizeOf51 (t15 rfl rfl) (by repeat (first | exact .own | exact .rd | apply Blk.there)) (by first | rfl | assumption | simp_all) (.tmp (t0 rfl) .nil)) (by simp)) (by have hN : damC D i j ≠ 0 := (by unfold damC; first | (rw [if_pos (by omega)]; decide) | (rw [if_neg (by omega), if_pos (by omega)]; decide)); have hW : damD D i j c = D := (by simp [damD, hN]); rw [hW]; have hC : damC D i j = 2 := (by unfold damC; first | (rw [if_pos (by omega)]; done) | (rw [if_neg (by omega), if_pos (by omega)]; done)); rw [hC]) (fun _ st => by have hN : damC D i j ≠ 0 := (by unfold damC; first | (rw [if_pos (by omega)]; decide) | (rw [if_neg (by omega), if_pos (by omega)]; decide)); have hW : damD D i j c = D := (by simp [damD, hN]); rw [hW]; exact Stars.sel (by repeat (first | exact Sel.nil | apply Sel.cons (by repeat (first | exact .here | apply Take.there)))) st)
      · intro hc5
        refine J.skip ?_
        refine At.blkN ?_
        refine At.next ?_
        refine J.seq ?_
        obtain ⟨k, rfl⟩ : ∃ k : Nat, i = (k : Int) := ⟨i.toNat, by omega⟩
        obtain ⟨q, rfl⟩ : ∃ q : Nat, j = (q : Int) := ⟨j.toNat, by omega⟩
        have hk : k < D.n := by omega
        have hq : q < 512 := by omega
        have hC := damC_zero (D := D) hk hq
        have hdl := hwf.dur k
        have hdg := durs_get (dur := D.dur) hk
        refine J.region ?_
        refine JL.ef (Ef.slit0 elt_48 ?_)
        intro b6
        refine JL.rd ((by first | exact Rd.fld0 fld_51_0 (t15 rfl rfl) | exact Rd.fldz fld_51_0 (t15 rfl rfl))) ?_
        refine JL.rd (Rd.ldN Try.isAgg48 (t0 rfl) (by repeat (first | exact .own | exact .rd | apply Blk.there)) (by repeat (first | exact .zero | apply Nth.succ))) ?_
        refine JL.ef (Ef.appS elt_48 (t2 rfl rfl) (t0 rfl) (by repeat (first | exact .here | apply Take.there)) (by first | (apply SIn.row; (repeat (first | exact .here | apply Take.there)); done) | (apply SIn.rowR; (repeat (first | exact .here | apply Take.there)); done) | (apply SIn.bytes; (repeat (first | exact .here | apply Take.there)); done) | (apply hA; (repeat (first | exact .here | apply Take.there)); done)) (by first | (simp; done) | (simp; omega) | omega | (simp [*]; done)) (by first | (simp; done) | (simp; omega) | omega | (simp [*]; done)) dur_one (by first | omega | (simp; omega)) (by first | (simp only [maxLen]; omega) | (simp [maxLen]; omega)) ?_)
        intro a7 c8
        refine JL.rd ((by first | exact Rd.fld0 fld_51_0 (t18 rfl rfl) | exact Rd.fldz fld_51_0 (t18 rfl rfl))) ?_
        refine JL.ef0 (Ef.st Try.sizeOf48 (t0 rfl) (t1 rfl rfl) rfl (by repeat (first | exact .here | apply Rep.there)) (by repeat (first | exact .own | exact .rd | apply Blk.there)) (by repeat (first | exact .zero | apply SetN.succ)) (by first | rfl | simp) ?_)
        refine JL.nil ?_
        refine At.next ?_
        refine J.seq ?_
        refine J.draw [⟨false, 0, 1⟩, ⟨false, 0, 1⟩, ⟨false, 0, 1⟩, ⟨false, 0, 0⟩, ⟨false, 0, 0⟩, ⟨false, 0, 0⟩, ⟨false, 0, 0⟩, ⟨false, 0, 0⟩, ⟨false, 0, 0⟩, ⟨false, 0, 0⟩, ⟨true, 0, 0⟩, ⟨false, 1, 1⟩, ⟨true, 1, 1⟩] [10, 12] mixed rfl ?_
        refine DRun.at [] [0, 1, 2, 3, 4, 5, 6, 7, 8, 9] rfl rfl ?_ ?_
        · exact .nil
        refine DNew.rd rfl ((by first | exact Rd.fld0 fld_51_0 (t19 rfl rfl) | exact Rd.fldz fld_51_0 (t19 rfl rfl))) ?_
        refine DNew.rd rfl (Rd.ldN Try.isAgg48 (t0 rfl) (by repeat (first | exact .own | exact .rd | apply Blk.there)) (by repeat (first | exact .zero | apply Nth.succ))) ?_
        refine DNew.rd rfl (Rd.move (t23 rfl rfl)) ?_
        refine DNew.rd rfl ((by first | exact Rd.fld0 fld_51_0 (t22 rfl rfl) | exact Rd.fldz fld_51_0 (t22 rfl rfl))) ?_
        refine DNew.rd rfl (Rd.ldN Try.isAgg48 (t0 rfl) (by repeat (first | exact .own | exact .rd | apply Blk.there)) (by repeat (first | exact .zero | apply Nth.succ))) ?_
        refine DNew.rd rfl (Rd.move (t26 rfl rfl)) ?_
        refine DNew.rd rfl (Rd.sIdx Try.runUnderlying48 Try.sizeOf9 (t1 rfl rfl) (t0 rfl) (SIn.row (by repeat (first | exact .here | apply Take.there))) (by simp) (by omega) (by omega)) ?_
        refine DNew.rd rfl (Rd.sLd Try.isAgg9 (t0 rfl) (SIn.row (by repeat (first | exact .here | apply Take.there))) (by rw [Int.toNat_natCast]; exact hdg) rfl) ?_
        refine DNew.rd rfl (Rd.move (t30 rfl rfl)) ?_
        refine DNew.rd rfl (Rd.move (t32 rfl rfl)) ?_
        refine DNew.nil ?_
        refine DRun.ef rfl (Ef.call (.cons (t2 rfl rfl) (.cons (t1 rfl rfl) (.cons (t0 rfl) .nil))) (flip_any (D.dur k) (q : Int) c (by omega) (by omega) (by omega)) (by repeat (first | exact Sel.nil | apply Sel.cons (by repeat (first | exact .here | apply Take.there)))) ?_)
        rintro - -
        simp only [List.cons_append, List.nil_append]
        refine DRun.at [0, 1, 2] [11] rfl rfl ?_ ?_
        · refine DCar.rd rfl (lk10 rfl) ((by first | exact Rd.fld0 fld_51_0 (t30 rfl rfl) | exact Rd.fldz fld_51_0 (t30 rfl rfl))) ?_
          refine DCar.rd rfl (lk9 rfl) (Rd.ldN Try.isAgg48 (t10 rfl rfl) (by repeat (first | exact .own | exact .rd | apply Blk.there)) (by repeat (first | exact .zero | apply Nth.succ))) ?_
          refine DCar.rd rfl (lk8 rfl) (Rd.move (t32 rfl rfl)) ?_
          exact .nil
        refine DNew.rd rfl (Rd.sIdx Try.runUnderlying48 Try.sizeOf9 (t9 rfl rfl) (t8 rfl rfl) (SIn.row (by repeat (first | exact .here | apply Take.there))) (by simp) (by omega) (by omega)) ?_
        refine DNew.nil ?_
        refine DRun.ef0 rfl (Ef.sSt Try.sizeOf9 (t0 rfl) (t1 rfl rfl) rfl (by repeat (first | exact .here | apply Take.there)) (by rw [Int.toNat_natCast]; exact hdg) (by decide) rfl ?_)
        rw [durs_set hk]
        refine DRun.end [] [] rfl rfl ?_ ?_
        · exact .nil
        refine DNew.nil ?_
        refine At.next ?_
        refine J.seq ?_
        refine J.live (K := [(9, _), (8, _), (4, _), (1, _), (2, _), (3, _)]) ⟨(lk29 rfl), (lk30 rfl), (lk31 rfl), (lk33 rfl), (lk34 rfl), (lk35 rfl), trivial⟩ ?_
        intro ρ9
        refine J.region ?_
        refine JL.ef (Ef.slit0 elt_49 ?_)
        intro b10
        refine JL.rd ((by first | exact Rd.fld0 fld_51_1 (t3 rfl rfl) | exact Rd.fld fld_51_1 (t3 rfl rfl))) ?_
        refine JL.rd (Rd.ldN Try.isAgg49 (t0 rfl) (by repeat (first | exact .own | exact .rd | apply Blk.there)) (by repeat (first | exact .zero | apply Nth.succ))) ?_
        refine JL.ef (Ef.appS elt_49 (t2 rfl rfl) (t0 rfl) (by repeat (first | exact .here | apply Take.there)) (by first | (apply SIn.row; (repeat (first | exact .here | apply Take.there)); done) | (apply SIn.rowR; (repeat (first | exact .here | apply Take.there)); done) | (apply SIn.bytes; (repeat (first | exact .here | apply Take.there)); done) | (apply hA; (repeat (first | exact .here | apply Take.there)); done)) (by first | (simp; done) | (simp; omega) | omega | (simp [*]; done)) (by first | (simp; done) | (simp; omega) | omega | (simp [*]; done)) wcell_one (by first | omega | (simp; omega)) (by first | (simp only [maxLen]; omega) | (simp [maxLen]; omega)) ?_)
        intro a11 c12
        refine JL.rd ((by first | exact Rd.fld0 fld_51_1 (t6 rfl rfl) | exact Rd.fld fld_51_1 (t6 rfl rfl))) ?_
        refine JL.ef0 (Ef.st Try.sizeOf49 (t0 rfl) (t1 rfl rfl) rfl (by repeat (first | exact .here | apply Rep.there)) (by repeat (first | exact .own | exact .rd | apply Blk.there)) (by repeat (first | exact .zero | apply SetN.succ)) (by first | rfl | simp) ?_)
        refine JL.nil ?_
        refine At.next ?_
        refine J.seq ?_
        refine J.seq ?_
        refine J.region ?_
        refine JL.rd (Rd.assign Ev.c) ?_
        refine JL.nil ?_
        refine At.next ?_
        refine J.block ?_
        refine J.loop (X := Nat) (fun (x : Nat) => [(10, .int .i64 (x : Int))]) (K := [(9, _), (8, _), (4, _), (1, _), (2, _), (3, _)]) (fun x => [pts b1 (.cells [Value.slice a7 D.n c8, .slice a11 D.pend.length c12, .int .i64 D.lim, .bool D.down, .int .i64 D.ops].toArray 51), row a7 c8 9 1 (durs D.n (upd D.dur k (flipB (D.dur k) q c))), row a11 c12 65 2 ((damP D.pend k q c x).map wcell), pts b2 (.cells [Value.slice none 0 0, .slice none 0 0, .int .i64 0, .bool false, .int .i64 0].toArray 51)]) (fun x => x ≤ D.pend.length) (fun x => D.pend.length - x) (0) ?_ ⟨lk0.trans (by first | with_reducible rfl | (congr 1; omega) | (simp; done) | (simp [*]; done)), trivial⟩ ⟨(lk6 rfl), (lk7 rfl), (lk8 rfl), (lk9 rfl), (lk10 rfl), (lk11 rfl), trivial⟩ (fun _ s => by simp only [Nat.zero_add, List.nil_append, Int.toNat_natCast] at s; rw [damP_zero]; exact Stars.sel (by repeat (first | exact Sel.nil | apply Sel.cons (by repeat (first | exact .here | apply Take.there)))) s) ?_
        · exact Nat.zero_le _
        intro x ρ hp
        simp only [List.cons_append, List.nil_append]
        refine J.seq ?_
        refine J.seq ?_
        refine J.region ?_
        refine JL.rd (Rd.move (t0 rfl)) ?_
        refine JL.rd ((by first | exact Rd.fld0 fld_51_1 (t4 rfl rfl) | exact Rd.fld fld_51_1 (t4 rfl rfl))) ?_
        refine JL.rd (Rd.ldN Try.isAgg49 (t0 rfl) (by repeat (first | exact .own | exact .rd | apply Blk.there)) (by repeat (first | exact .zero | apply Nth.succ))) ?_
        refine JL.rd (Rd.len Try.runUnderlying49 (t0 rfl)) ?_
        refine JL.rd (Rd.lss (t3 rfl rfl) (t0 rfl)) ?_
        refine JL.nil ?_
        refine At.next ?_
        refine J.condD (t0 rfl) ?_ ?_
        · intro hc13
          obtain ⟨p, hp⟩ : ∃ p, D.pend[x]? = some p := ⟨_, List.getElem?_eq_getElem (by omega)⟩
          have hpl := (hwf.pend p (List.mem_of_getElem? hp)).2
          have hx : ((damP D.pend k q c x).map wcell)[(x : Int).toNat]? = some [.int .i64 (p.1 : Int), str p.2] := by rw [Int.toNat_natCast, List.getElem?_map, damP_get hp]; rfl
          have hx2 : (x : Int).toNat < ((damP D.pend k q c x).map wcell).length := by simp; omega
          refine J.skip ?_
          refine At.next ?_
          refine J.seq ?_
          refine J.block ?_
          refine J.seq ?_
          refine J.region ?_
          refine JL.rd ((by first | exact Rd.fld0 fld_51_1 (t8 rfl rfl) | exact Rd.fld fld_51_1 (t8 rfl rfl))) ?_
          refine JL.rd (Rd.ldN Try.isAgg49 (t0 rfl) (by repeat (first | exact .own | exact .rd | apply Blk.there)) (by repeat (first | exact .zero | apply Nth.succ))) ?_
          refine JL.rd (Rd.move (t7 rfl rfl)) ?_
          refine JL.rd (Rd.sIdx Try.runUnderlying49 Try.sizeOf65 (t1 rfl rfl) (t0 rfl) (SIn.row (by repeat (first | exact .here | apply Take.there))) (by simp) (by omega) (by omega)) ?_
          refine JL.rd (Rd.sFld0 fld_65_0 (t0 rfl) (SIn.row (by repeat (first | exact .here | apply Take.there))) hx2) ?_
          refine JL.rd (Rd.sLd Try.isAgg3 (t0 rfl) (SIn.row (by repeat (first | exact .here | apply Take.there))) hx rfl) ?_
          refine JL.rd (Rd.move (t15 rfl rfl)) ?_
          refine JL.rd (Rd.eql (t1 rfl rfl) (t0 rfl)) ?_
          refine JL.nil ?_
          refine At.next ?_
          refine J.condD (t0 rfl) ?_ ?_
          · intro hc14
            have he := rdam_hit (j := q) (c := c) (i := k) hp (by omega)
            refine J.draw [⟨false, 0, 1⟩, ⟨false, 0, 1⟩, ⟨false, 0, 1⟩, ⟨false, 0, 0⟩, ⟨false, 0, 0⟩, ⟨false, 0, 0⟩, ⟨false, 0, 0⟩, ⟨false, 0, 0⟩, ⟨false, 0, 0⟩, ⟨false, 0, 0⟩, ⟨false, 0, 0⟩, ⟨true, 0, 0⟩, ⟨false, 1, 1⟩, ⟨false, 1, 1⟩, ⟨true, 1, 1⟩] [11, 14] mixed rfl ?_
            refine DRun.at [] [0, 1, 2, 3, 4, 5, 6, 7, 8, 9, 10] rfl rfl ?_ ?_
            · exact .nil
            refine DNew.rd rfl ((by first | exact Rd.fld0 fld_51_1 (t16 rfl rfl) | exact Rd.fld fld_51_1 (t16 rfl rfl))) ?_
            refine DNew.rd rfl (Rd.ldN Try.isAgg49 (t0 rfl) (by repeat (first | exact .own | exact .rd | apply Blk.there)) (by repeat (first | exact .zero | apply Nth.succ))) ?_
            refine DNew.rd rfl (Rd.move (t15 rfl rfl)) ?_
            refine DNew.rd rfl ((by first | exact Rd.fld0 fld_51_1 (t19 rfl rfl) | exact Rd.fld fld_51_1 (t19 rfl rfl))) ?_
            refine DNew.rd rfl (Rd.ldN Try.isAgg49 (t0 rfl) (by repeat (first | exact .own | exact .rd | apply Blk.there)) (by repeat (first | exact .zero | apply Nth.succ))) ?_
            refine DNew.rd rfl (Rd.move (t18 rfl rfl)) ?_
            refine DNew.rd rfl (Rd.sIdx Try.runUnderlying49 Try.sizeOf65 (t1 rfl rfl) (t0 rfl) (SIn.row (by repeat (first | exact .here | apply Take.there))) (by simp) (by omega) (by omega)) ?_
            refine DNew.rd rfl (Rd.sFld0 fld_65_1 (t0 rfl) (SIn.row (by repeat (first | exact .here | apply Take.there))) hx2) ?_
            refine DNew.rd rfl (Rd.sLd Try.isAgg9 (t0 rfl) (SIn.row (by repeat (first | exact .here | apply Take.there))) hx rfl) ?_
            refine DNew.rd rfl (Rd.move (t27 rfl rfl)) ?_
            refine DNew.rd rfl (Rd.move (t29 rfl rfl)) ?_
            refine DNew.nil ?_
            refine DRun.ef rfl (Ef.call (.cons (t2 rfl rfl) (.cons (t1 rfl rfl) (.cons (t0 rfl) .nil))) (flip_any p.2 (q : Int) c (by omega) (by omega) (by omega)) (by repeat (first | exact Sel.nil | apply Sel.cons (by repeat (first | exact .here | apply Take.there)))) ?_)
            rintro - -
            simp only [List.cons_append, List.nil_append]
            refine DRun.at [0, 1, 2] [12, 13] rfl rfl ?_ ?_
            · refine DCar.rd rfl (lk11 rfl) ((by first | exact Rd.fld0 fld_51_1 (t28 rfl rfl) | exact Rd.fld fld_51_1 (t28 rfl rfl))) ?_
              refine DCar.rd rfl (lk10 rfl) (Rd.ldN Try.isAgg49 (t11 rfl rfl) (by repeat (first | exact .own | exact .rd | apply Blk.there)) (by repeat (first | exact .zero | apply Nth.succ))) ?_
              refine DCar.rd rfl (lk9 rfl) (Rd.move (t25 rfl rfl)) ?_
              exact .nil
            refine DNew.rd rfl (Rd.sIdx Try.runUnderlying49 Try.sizeOf65 (t10 rfl rfl) (t9 rfl rfl) (SIn.row (by repeat (first | exact .here | apply Take.there))) (by simp) (by omega) (by omega)) ?_
            refine DNew.rd rfl (Rd.sFld0 fld_65_1 (t0 rfl) (SIn.row (by repeat (first | exact .here | apply Take.there))) hx2) ?_
            refine DNew.nil ?_
            refine DRun.ef0 rfl (Ef.sSt Try.sizeOf9 (t0 rfl) (t2 rfl rfl) rfl (by repeat (first | exact .here | apply Take.there)) hx (by decide) rfl ?_)
            simp only [Int.toNat_natCast]
            refine DRun.end [] [] rfl rfl ?_ ?_
            · exact .nil
            refine DNew.nil ?_
            refine At.blkN ?_
            refine At.next ?_
            refine J.live (K := [(10, _), (9, _), (8, _), (4, _), (1, _), (2, _), (3, _)]) ⟨(lk27 rfl), (lk28 rfl), (lk29 rfl), (lk30 rfl), (lk31 rfl), (lk32 rfl), (lk33 rfl), trivial⟩ ?_
            intro ρ15
            refine J.region ?_
            refine JL.rd (Rd.move (t0 rfl)) ?_
            refine JL.rd (Rd.add (t0 rfl) Ev.c (w64 (by omega) (by omega))) ?_
            refine JL.rd (Rd.assign (t0 rfl)) ?_
            refine JL.nil ?_
            first | rw [he] | rw [← he]
            refine At.again (x + 1) ?_ ?_ ⟨lk0.trans (by first | with_reducible rfl | (congr 1; omega) | (simp; done) | (simp [*]; done)), trivial⟩ ⟨(lk4 rfl), (lk5 rfl), (lk6 rfl), (lk7 rfl), (lk8 rfl), (lk9 rfl), trivial⟩ (fun _ => Stars.sel (by repeat (first | exact Sel.nil | apply Sel.cons (by repeat (first | exact .here | apply Take.there)))))
            · omega
            · omega
          · intro hc14
            have he := dam_miss (j := q) (c := c) (i := k) hp (by omega)
            refine J.skip ?_
            refine At.blkN ?_
            refine At.next ?_
            refine J.region ?_
            refine JL.rd (Rd.move (t13 rfl rfl)) ?_
            refine JL.rd (Rd.add (t0 rfl) Ev.c (w64 (by omega) (by omega))) ?_
            refine JL.rd (Rd.assign (t0 rfl)) ?_
            refine JL.nil ?_
            first | rw [he] | rw [← he]
            refine At.again (x + 1) ?_ ?_ ⟨lk0.trans (by first | with_reducible rfl | (congr 1; omega) | (simp; done) | (simp [*]; done)), trivial⟩ ⟨(lk17 rfl), (lk18 rfl), (lk19 rfl), (lk20 rfl), (lk21 rfl), (lk22 rfl), trivial⟩ (fun _ => Stars.sel (by repeat (first | exact Sel.nil | apply Sel.cons (by repeat (first | exact .here | apply Take.there)))))
            · omega
            · omega
        · intro hc13
          obtain rfl : x = D.pend.length := by omega
          refine J.exit ?_
          refine At.nextX ?_
          refine At.loopX ?_
          refine At.blkX ?_
          refine At.next ?_
          refine J.seq ?_
          refine J.region ?_
          refine JL.rd (Rd.ldB Try.isAgg51 Try.sizeOf51 (t8 rfl rfl) (by repeat (first | exact .own | exact .rd | apply Blk.there)) (by first | rfl | assumption | simp_all)) ?_
          refine JL.ef0 (Ef.stB Try.sizeOf51 (t8 rfl rfl) (t0 rfl) (by repeat (first | exact .here | apply Rep.there)) (by repeat (first | exact .own | exact .rd | apply Blk.there)) (by first | rfl | assumption | simp_all) (by first | rfl | assumption | simp_all) (by first | exact bv_one _ | exact cons_one rfl (bv_one _) | (simp [Value.oneCell']; done) | (simp [Value.oneCell', str]; done)) (by decide) ?_)
          refine JL.rd (Rd.assign Ev.c) ?_
          refine JL.nil ?_
          refine At.next ?_
          refine J.ret ?_
          rw [damP_all]
          refine At.demote (by repeat (first | exact .here | apply Take.there)) ?_
          refine At.demote (by repeat (first | exact .here | apply Take.there)) ?_
          exact At.ret ((a7, c8, a11, c12)) (trivial) (ResV.many (rs := [.cell 8 51, .tmp 9]) rfl (.agg Try.isAgg51 Try.sizeOf51 (t9 rfl rfl) (by repeat (first | exact .own | exact .rd | apply Blk.there)) (by first | rfl | assumption | simp_all) (.tmp (t0 rfl) .nil)) (by simp)) (by have hW : damD D k q c = D.damaged k q c := (by simp [damD, hC]); rw [hW, hC]; simp [refV, Dk.damaged]) (fun _ st => by have hW : damD D k q c = D.damaged k q c := (by simp [damD, hC]); rw [hW]; exact Stars.sel (by repeat (first | exact Sel.nil | apply Sel.cons (by repeat (first | exact .here | apply Take.there)))) st)

set_option maxRecDepth 100000 in
set_option maxHeartbeats 400000 in
theorem opbytes_any (o : OpV) :
    Fn Try.prog 46 [.agg (opC o).toArray] [] (X := Unit) (fun _ => True) (fun _ => str (opB o.first)) (fun _ => []) := by
  refine Fn.mk' (n := 22) (l := [(0, .agg (opC o).toArray)]) (fn := Try.f46) Try.func46 (by kernel_rfl) rfl rfl (by simp) rfl ?_
  intro h0 w0
  refine J.seq ?_
  refine J.region ?_
  refine JL.ef (Ef.box (t0 rfl) rfl ?_)
  intro b1
  refine JL.rd (Rd.assign Ev.c) ?_
  refine JL.nil ?_
  refine At.next ?_
  refine J.seq ?_
  refine J.region ?_
  refine JL.ef (Ef.mkbytes (n := 512) (i := Try.t5) Try.runUnderlying28 (fun w => by kernel_rfl) Try.sizeOf5 Try.zeroValue5 Ev.c Ev.c (by decide) (by decide) (by decide) ?_)
  intro b2
  refine JL.rd (Rd.assign (t0 rfl)) ?_
  refine JL.nil ?_
  refine At.next ?_
  refine J.seq ?_
  refine J.seq ?_
  refine J.region ?_
  refine JL.rd (Rd.assign Ev.c) ?_
  refine JL.nil ?_
  refine At.next ?_
  refine J.block ?_
  refine J.loop (X := Nat) (fun (x : Nat) => [(4, .int .i64 (x : Int))]) (K := [(3, _), (2, _), (1, _)]) (fun x => [bytesA (some ⟨b2, 0, none⟩) 512 (opPre o.first x ++ List.replicate (512 - x) 0), pts b1 (.cells (opC o).toArray 58)]) (fun x => x ≤ 512) (fun x => 512 - x) (0) ?_ ⟨lk0.trans (by first | with_reducible rfl | (congr 1; omega) | (simp; done) | (simp [*]; done)), trivial⟩ ⟨(lk1 rfl), (lk3 rfl), (lk4 rfl), trivial⟩ (fun _ => Stars.sel (by repeat (first | exact Sel.nil | apply Sel.cons (by repeat (first | exact .here | apply Take.there))))) ?_
  · omega
  intro x ρ hp
  simp only [List.cons_append, List.nil_append]
  refine J.seq ?_
  refine J.seq ?_
  refine J.region ?_
  refine JL.rd (Rd.move (t0 rfl)) ?_
  refine JL.rd (Rd.move (t2 rfl rfl)) ?_
  refine JL.rd (Rd.len Try.runUnderlying28 (t0 rfl)) ?_
  refine JL.rd (Rd.lss (t2 rfl rfl) (t0 rfl)) ?_
  refine JL.nil ?_
  refine At.next ?_
  refine J.condD (t0 rfl) ?_ ?_
  · intro hc3
    refine J.skip ?_
    refine At.next ?_
    refine J.seq ?_
    refine J.block ?_
    refine J.region ?_
    refine JL.rd (Rd.move (t5 rfl rfl)) ?_
    refine JL.rd (Rd.move (t5 rfl rfl)) ?_
    refine JL.rd ((by first | exact Rd.fld0 fld_58_3 (t9 rfl rfl) | exact Rd.fld fld_58_3 (t9 rfl rfl))) ?_
    refine JL.rd (Rd.ldN Try.isAgg5 (t0 rfl) (by repeat (first | exact .own | exact .rd | apply Blk.there)) (by repeat (first | exact .zero | apply Nth.succ))) ?_
    refine JL.rd (Rd.move (t8 rfl rfl)) ?_
    refine JL.rd (Rd.conv8 (t0 rfl) (fun w => ⟨_, Try.runUnderlying3 w⟩) Try.runUnderlying5) ?_
    refine JL.rd (Rd.add8 (t2 rfl rfl) (t0 rfl)) ?_
    refine JL.rd (Rd.byIdx Try.runUnderlying28 Try.sizeOf5 (t6 rfl rfl) (t5 rfl rfl) (by first | (apply SIn.bytes; (repeat (first | exact .here | apply Take.there)); done) | (apply SIn.rowR; (repeat (first | exact .here | apply Take.there)); done) | (apply hA; (repeat (first | exact .here | apply Take.there)); done)) (by first | (simp; done) | (simp; omega) | omega | (simp [*]; done)) (by omega) (by omega)) ?_
    refine JL.ef0 (Ef.bySt Try.sizeOf5 (t0 rfl) (t1 rfl rfl) (by repeat (first | exact .here | apply Take.there)) (by first | (simp; done) | (simp; omega) | omega | (simp [*]; done)) ?_)
    refine JL.nil ?_
    refine At.blkN ?_
    refine At.next ?_
    refine J.region ?_
    refine JL.rd (Rd.move (t12 rfl rfl)) ?_
    refine JL.rd (Rd.add (t0 rfl) Ev.c (w64 (by omega) (by omega))) ?_
    refine JL.rd (Rd.assign (t0 rfl)) ?_
    refine JL.nil ?_
    rw [Int.toNat_natCast, opPre_step (by omega)]
    refine At.again (x + 1) ?_ ?_ ⟨lk0.trans (by first | with_reducible rfl | (congr 1; omega) | (simp; done) | (simp [*]; done)), trivial⟩ ⟨(lk16 rfl), (lk17 rfl), (lk18 rfl), trivial⟩ (fun _ => Stars.sel (by repeat (first | exact Sel.nil | apply Sel.cons (by repeat (first | exact .here | apply Take.there)))))
    · omega
    · omega
  · intro hc3
    obtain rfl : x = 512 := by simp at hc3; omega
    refine J.exit ?_
    refine At.nextX ?_
    refine At.loopX ?_
    refine At.blkX ?_
    refine At.next ?_
    refine J.seq ?_
    refine J.region ?_
    refine JL.rd (Rd.move (t5 rfl rfl)) ?_
    refine JL.rd (Rd.byStr Try.underlying28 Try.underlying5 Try.underlying9 (t0 rfl) (by first | (apply SIn.bytes; (repeat (first | exact .here | apply Take.there)); done) | (apply SIn.rowR; (repeat (first | exact .here | apply Take.there)); done) | (apply hA; (repeat (first | exact .here | apply Take.there)); done)) (by first | (simp; done) | (simp; omega) | omega | (simp [*]; done))) ?_
    refine JL.rd (Rd.assign (t0 rfl)) ?_
    refine JL.nil ?_
    refine At.next ?_
    refine J.ret ?_
    exact At.ret (()) (trivial) (ResV.one rfl (t0 rfl)) (by simp [opB]) (fun _ => Stars.sel (by repeat (first | exact Sel.nil | apply Sel.cons (by repeat (first | exact .here | apply Take.there)))))
end Go.Proofs.Ytfnoaohbjlnkgaa
