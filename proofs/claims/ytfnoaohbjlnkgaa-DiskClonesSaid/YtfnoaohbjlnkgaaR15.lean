/-
  Walks, printed by mk.py.
-/
import Derived.Test.YtfnoaohbjlnkgaaR8
namespace Go.Proofs.Ytfnoaohbjlnkgaa
attribute [local irreducible] J JL At Rd Ef DNew DCar DRun Then RetQ LoopQ


set_option maxRecDepth 100000 in
set_option maxHeartbeats 400000 in
theorem view_any (d : Nat) (r1 r2 : Option Addr) (k1 k2 : Nat) (D : Dk) (hwf : D.wf) :
    Fn Try.prog 33 [.pointer (some ⟨d, 0, none⟩), refV r1 k1 r2 k2 D] [dk d D, rowR r1 1 (durs D.n D.dur), rowR r2 2 (D.pend.map wcell)] (X := Unit) (fun _ => True) (fun _ => .bool true) (fun _ => [dk d D, rowR r1 1 (durs D.n D.dur), rowR r2 2 (D.pend.map wcell)]) := by
  refine Fn.mk' (n := 103) (l := [(0, .pointer (some ⟨d, 0, none⟩)), (1, refV r1 k1 r2 k2 D)]) (fn := Try.f33) Try.func33 (by kernel_rfl) rfl rfl (by simp) rfl ?_
  intro h0 w0
  have hlen := hwf.plen
  have hn2 := hwf.n2
  have hn1 := hwf.n1
  refine J.seq ?_
  refine J.region ?_
  refine JL.ef (Ef.box (t1 rfl rfl) rfl ?_)
  intro b1
  refine JL.rd (Rd.assign Ev.c) ?_
  refine JL.nil ?_
  refine At.next ?_
  refine J.seq ?_
  refine J.region ?_
  refine JL.rd (Rd.move (t2 rfl rfl)) ?_
  refine JL.ef (Ef.call (.cons (t0 rfl) .nil) (pending_any d D) (by repeat (first | exact Sel.nil | apply Sel.cons (by repeat (first | exact .here | apply Take.there)))) ?_)
  rintro ⟨pa, pc, px⟩ hpx
  simp only [List.cons_append, List.nil_append]
  refine JL.rd (Rd.assign (t0 rfl)) ?_
  refine JL.nil ?_
  refine At.next ?_
  refine J.seq ?_
  refine J.seq ?_
  refine J.draw [⟨false, 0, 0⟩, ⟨true, 0, 0⟩, ⟨false, 0, 1⟩, ⟨false, 0, 1⟩, ⟨false, 0, 1⟩, ⟨false, 1, 1⟩, ⟨false, 1, 1⟩, ⟨false, 1, 1⟩, ⟨true, 1, 1⟩, ⟨false, 1, 2⟩, ⟨false, 1, 2⟩, ⟨false, 2, 2⟩, ⟨false, 2, 2⟩, ⟨false, 2, 2⟩, ⟨false, 2, 2⟩, ⟨true, 2, 2⟩, ⟨false, 2, 3⟩, ⟨false, 2, 3⟩, ⟨false, 3, 3⟩, ⟨false, 3, 3⟩, ⟨false, 3, 3⟩, ⟨false, 3, 3⟩, ⟨false, 3, 3⟩, ⟨false, 3, 3⟩, ⟨false, 3, 3⟩, ⟨false, 3, 3⟩, ⟨false, 3, 3⟩, ⟨false, 3, 3⟩] [1, 8, 15] mixed rfl ?_
  refine DRun.at [] [0, 2, 3, 4] rfl rfl ?_ ?_
  · exact .nil
  refine DNew.rd rfl (Rd.move (t5 rfl rfl)) ?_
  refine DNew.rd rfl ((by first | exact Rd.fld0 fld_51_0 (t5 rfl rfl) | exact Rd.fldz fld_51_0 (t5 rfl rfl))) ?_
  refine DNew.rd rfl (Rd.ldN Try.isAgg48 (t0 rfl) (by repeat (first | exact .own | exact .rd | apply Blk.there)) (by repeat (first | exact .zero | apply Nth.succ))) ?_
  refine DNew.rd rfl (Rd.len Try.runUnderlying48 (t0 rfl)) ?_
  refine DNew.nil ?_
  refine DRun.ef rfl (Ef.call (.cons (t3 rfl rfl) .nil) (blocks_any d D) (by repeat (first | exact Sel.nil | apply Sel.cons (by repeat (first | exact .here | apply Take.there)))) ?_)
  rintro - -
  simp only [List.cons_append, List.nil_append]
  refine DRun.at [2, 3, 4] [5, 6, 7, 9, 10] rfl rfl ?_ ?_
  · refine DCar.rd rfl (lk3 rfl) ((by first | exact Rd.fld0 fld_51_0 (t9 rfl rfl) | exact Rd.fldz fld_51_0 (t9 rfl rfl))) ?_
    refine DCar.rd rfl (lk2 rfl) (Rd.ldN Try.isAgg48 (t3 rfl rfl) (by repeat (first | exact .own | exact .rd | apply Blk.there)) (by repeat (first | exact .zero | apply Nth.succ))) ?_
    refine DCar.rd rfl (lk1 rfl) (Rd.len Try.runUnderlying48 (t2 rfl rfl)) ?_
    exact .nil
  refine DNew.rd rfl (Rd.neq (t0 rfl) (t1 rfl rfl)) ?_
  refine DNew.rd rfl (Rd.move (t0 rfl)) ?_
  refine DNew.rdG rfl rfl (EvB (t0 rfl) (decide_eq_false (fun h => h rfl))) rfl (Rd.move (t12 rfl rfl)) ?_
  refine DNew.rdG rfl rfl (EvB (t1 rfl rfl) (decide_eq_false (fun h => h rfl))) rfl ((by first | exact Rd.fld0 fld_51_4 (t12 rfl rfl) | exact Rd.fld fld_51_4 (t12 rfl rfl))) ?_
  refine DNew.rdG rfl rfl (EvB (t2 rfl rfl) (decide_eq_false (fun h => h rfl))) rfl (Rd.ldN Try.isAgg3 (t0 rfl) (by repeat (first | exact .own | exact .rd | apply Blk.there)) (by repeat (first | exact .zero | apply Nth.succ))) ?_
  refine DNew.nil ?_
  refine DRun.efG rfl rfl (EvB (t3 rfl rfl) (decide_eq_false (fun h => h rfl))) rfl (Ef.call (.cons (t2 rfl rfl) .nil) (operations_any d D) (by repeat (first | exact Sel.nil | apply Sel.cons (by repeat (first | exact .here | apply Take.there)))) ?_)
  rintro - -
  simp only [List.cons_append, List.nil_append]
  refine DRun.at [9, 10] [11, 12, 13, 14, 16, 17] rfl rfl ?_ ?_
  · refine DCar.rdG rfl rfl (EvB (t4 rfl rfl) (decide_eq_false (fun h => h rfl))) rfl (lk2 rfl) ((by first | exact Rd.fld0 fld_51_4 (t15 rfl rfl) | exact Rd.fld fld_51_4 (t15 rfl rfl))) ?_
    refine DCar.rdG rfl rfl (EvB (t4 rfl rfl) (decide_eq_false (fun h => h rfl))) rfl (lk1 rfl) (Rd.ldN Try.isAgg3 (t2 rfl rfl) (by repeat (first | exact .own | exact .rd | apply Blk.there)) (by repeat (first | exact .zero | apply Nth.succ))) ?_
    exact .nil
  refine DNew.rdG rfl rfl (EvB (t4 rfl rfl) (decide_eq_false (fun h => h rfl))) rfl (Rd.neq (t0 rfl) (t1 rfl rfl)) ?_
  refine DNew.rd rfl (Rd.pickF (EvB (t5 rfl rfl) (decide_eq_false (fun h => h rfl))) (t0 rfl)) ?_
  refine DNew.rd rfl (Rd.move (t0 rfl)) ?_
  refine DNew.rdG rfl rfl (EvB (t0 rfl) (decide_eq_false (fun h => h rfl))) rfl (Rd.move (t19 rfl rfl)) ?_
  refine DNew.rdG rfl rfl (EvB (t1 rfl rfl) (decide_eq_false (fun h => h rfl))) rfl ((by first | exact Rd.fld0 fld_51_3 (t19 rfl rfl) | exact Rd.fld fld_51_3 (t19 rfl rfl))) ?_
  refine DNew.rdG rfl rfl (EvB (t2 rfl rfl) (decide_eq_false (fun h => h rfl))) rfl (Rd.ldN Try.isAgg4 (t0 rfl) (by repeat (first | exact .own | exact .rd | apply Blk.there)) (by repeat (first | exact .zero | apply Nth.succ))) ?_
  refine DNew.nil ?_
  refine DRun.efG rfl rfl (EvB (t3 rfl rfl) (decide_eq_false (fun h => h rfl))) rfl (Ef.call (.cons (t2 rfl rfl) .nil) (down_any d D) (by repeat (first | exact Sel.nil | apply Sel.cons (by repeat (first | exact .here | apply Take.there)))) ?_)
  rintro - -
  simp only [List.cons_append, List.nil_append]
  refine DRun.end [16, 17] [18, 19, 20, 21, 22, 23, 24, 25, 26, 27] rfl rfl ?_ ?_
  · refine DCar.rdG rfl rfl (EvB (t4 rfl rfl) (decide_eq_false (fun h => h rfl))) rfl (lk2 rfl) ((by first | exact Rd.fld0 fld_51_3 (t22 rfl rfl) | exact Rd.fld fld_51_3 (t22 rfl rfl))) ?_
    refine DCar.rdG rfl rfl (EvB (t4 rfl rfl) (decide_eq_false (fun h => h rfl))) rfl (lk1 rfl) (Rd.ldN Try.isAgg4 (t2 rfl rfl) (by repeat (first | exact .own | exact .rd | apply Blk.there)) (by repeat (first | exact .zero | apply Nth.succ))) ?_
    exact .nil
  refine DNew.rdG rfl rfl (EvB (t4 rfl rfl) (decide_eq_false (fun h => h rfl))) rfl (Rd.bool2 (t0 rfl) (t1 rfl rfl) Try.runUnderlying4 (by simp)) ?_
  refine DNew.rd rfl (Rd.pickF (EvB (t5 rfl rfl) (decide_eq_false (fun h => h rfl))) (t0 rfl)) ?_
  refine DNew.rd rfl (Rd.move (t0 rfl)) ?_
  refine DNew.rdG rfl rfl (EvB (t0 rfl) (by simp)) rfl (Rd.move (t21 rfl rfl)) ?_
  refine DNew.rdG rfl rfl (EvB (t1 rfl rfl) (by simp)) rfl (Rd.len Try.runUnderlying38 (t0 rfl)) ?_
  refine DNew.rdG rfl rfl (EvB (t2 rfl rfl) (by simp)) rfl ((by first | exact Rd.fld0 fld_51_1 (t27 rfl rfl) | exact Rd.fld fld_51_1 (t27 rfl rfl))) ?_
  refine DNew.rdG rfl rfl (EvB (t3 rfl rfl) (by simp)) rfl (Rd.ldN Try.isAgg49 (t0 rfl) (by repeat (first | exact .own | exact .rd | apply Blk.there)) (by repeat (first | exact .zero | apply Nth.succ))) ?_
  refine DNew.rdG rfl rfl (EvB (t4 rfl rfl) (by simp)) rfl (Rd.len Try.runUnderlying49 (t0 rfl)) ?_
  refine DNew.rdG rfl rfl (EvB (t5 rfl rfl) (by simp)) rfl (Rd.neq (t3 rfl rfl) (t0 rfl)) ?_
  refine DNew.rd rfl (Rd.pickF (EvB (t6 rfl rfl) (by simp)) (t0 rfl)) ?_
  refine DNew.nil ?_
  refine At.next ?_
  refine J.condF (EvB (t0 rfl) (decide_eq_false (fun h => h rfl))) ?_
  refine J.skip ?_
  refine At.next ?_
  refine J.seq ?_
  refine J.seq ?_
  refine J.live (K := [(5, _), (4, _), (3, _), (0, _)]) ⟨(lk28 rfl), (lk31 rfl), (lk32 rfl), (lk33 rfl), trivial⟩ ?_
  intro ρ2
  refine J.region ?_
  refine JL.rd (Rd.assign Ev.c) ?_
  refine JL.nil ?_
  refine At.next ?_
  refine J.block ?_
  refine J.loop (X := Nat) (fun (x : Nat) => [(6, .int .i64 (x : Int))]) (K := [(5, _), (4, _), (3, _), (0, _)]) (fun x => [dk d D, pts b1 (.cells [Value.slice r1 D.n k1, .slice r2 D.pend.length k2, .int .i64 D.lim, .bool D.down, .int .i64 D.ops].toArray 51), rowR r1 1 (durs D.n D.dur), rowR r2 2 (D.pend.map wcell), row pa pc 74 2 (wl D.pend px), bytesL D.pend px]) (fun x => x ≤ D.pend.length) (fun x => D.pend.length - x) (0) ?_ ⟨lk0.trans (by first | with_reducible rfl | (congr 1; omega) | (simp; done) | (simp [*]; done)), trivial⟩ ⟨(lk1 rfl), (lk2 rfl), (lk3 rfl), (lk4 rfl), trivial⟩ (fun _ => Stars.sel (by repeat (first | exact Sel.nil | apply Sel.cons (by repeat (first | exact .here | apply Take.there))))) ?_
  · exact Nat.zero_le _
  intro x ρ hp
  simp only [List.cons_append, List.nil_append]
  refine J.seq ?_
  refine J.seq ?_
  refine J.region ?_
  refine JL.rd (Rd.move (t0 rfl)) ?_
  refine JL.rd (Rd.move (t2 rfl rfl)) ?_
  refine JL.rd (Rd.len Try.runUnderlying38 (t0 rfl)) ?_
  refine JL.rd (Rd.lss (t2 rfl rfl) (t0 rfl)) ?_
  refine JL.nil ?_
  refine At.next ?_
  refine J.condD (t0 rfl) ?_ ?_
  · intro hc3
    refine J.skip ?_
    refine At.next ?_
    refine J.seq ?_
    refine J.block ?_
    refine J.seq ?_
    obtain ⟨p, hp⟩ : ∃ p, D.pend[x]? = some p := ⟨_, List.getElem?_eq_getElem (by omega)⟩
    dsimp only at hpx
    obtain ⟨q, hq⟩ : ∃ q, px[x]? = some q := ⟨_, List.getElem?_eq_getElem (by omega)⟩
    have hx : (D.pend.map wcell)[(x : Int).toNat]? = some [.int .i64 (p.1 : Int), str p.2] := by rw [Int.toNat_natCast]; exact wcells_get hp
    have hx2 : (x : Int).toNat < (D.pend.map wcell).length := by simp; omega
    have hwlen : (wl D.pend px).length = D.pend.length := wl_length hpx.symm
    have hy : (wl D.pend px)[(x : Int).toNat]? = some [.int .i64 (p.1 : Int), .slice q.1 p.2.length q.2] := by rw [Int.toNat_natCast]; exact wl_get hp hq
    have hy2 : (x : Int).toNat < (wl D.pend px).length := by rw [hwlen]; omega
    have hpl := (hwf.pend p (List.mem_of_getElem? hp)).2
    refine J.draw [⟨false, 0, 0⟩, ⟨false, 0, 0⟩, ⟨false, 0, 0⟩, ⟨false, 0, 0⟩, ⟨false, 0, 0⟩, ⟨false, 0, 0⟩, ⟨false, 0, 0⟩, ⟨false, 0, 0⟩, ⟨false, 0, 0⟩, ⟨false, 0, 0⟩, ⟨false, 0, 0⟩, ⟨false, 0, 0⟩, ⟨false, 0, 0⟩, ⟨false, 0, 0⟩, ⟨false, 0, 0⟩, ⟨false, 0, 0⟩, ⟨false, 0, 0⟩, ⟨false, 0, 0⟩, ⟨false, 0, 0⟩, ⟨false, 0, 0⟩, ⟨false, 0, 0⟩, ⟨false, 0, 0⟩, ⟨false, 0, 0⟩, ⟨false, 0, 0⟩, ⟨false, 0, 0⟩, ⟨false, 0, 0⟩, ⟨false, 0, 0⟩] [] mixed rfl ?_
    refine DRun.end [] [0, 1, 2, 3, 4, 5, 6, 7, 8, 9, 10, 11, 12, 13, 14, 15, 16, 17, 18, 19, 20, 21, 22, 23, 24, 25, 26] rfl rfl ?_ ?_
    · exact .nil
    refine DNew.rd rfl (Rd.move (t5 rfl rfl)) ?_
    refine DNew.rd rfl (Rd.move (t5 rfl rfl)) ?_
    refine DNew.rd rfl (Rd.sIdx Try.runUnderlying38 Try.sizeOf74 (t1 rfl rfl) (t0 rfl) (SIn.row (by repeat (first | exact .here | apply Take.there))) hwlen (by omega) (by omega)) ?_
    refine DNew.rd rfl (Rd.sFld0 fld_74_0 (t0 rfl) (SIn.row (by repeat (first | exact .here | apply Take.there))) hy2) ?_
    refine DNew.rd rfl (Rd.sLd Try.isAgg3 (t0 rfl) (SIn.row (by repeat (first | exact .here | apply Take.there))) hy rfl) ?_
    refine DNew.rd rfl ((by first | exact Rd.fld0 fld_51_1 (t12 rfl rfl) | exact Rd.fld fld_51_1 (t12 rfl rfl))) ?_
    refine DNew.rd rfl (Rd.ldN Try.isAgg49 (t0 rfl) (by repeat (first | exact .own | exact .rd | apply Blk.there)) (by repeat (first | exact .zero | apply Nth.succ))) ?_
    refine DNew.rd rfl (Rd.move (t11 rfl rfl)) ?_
    refine DNew.rd rfl (Rd.sIdx Try.runUnderlying49 Try.sizeOf65 (t1 rfl rfl) (t0 rfl) (SIn.rowR (by repeat (first | exact .here | apply Take.there))) (by simp) (by omega) (by omega)) ?_
    refine DNew.rd rfl (Rd.sFld0 fld_65_0 (t0 rfl) (SIn.rowR (by repeat (first | exact .here | apply Take.there))) hx2) ?_
    refine DNew.rd rfl (Rd.sLd Try.isAgg3 (t0 rfl) (SIn.rowR (by repeat (first | exact .here | apply Take.there))) hx rfl) ?_
    refine DNew.rd rfl (Rd.neq (t6 rfl rfl) (t0 rfl)) ?_
    refine DNew.rd rfl (Rd.move (t0 rfl)) ?_
    refine DNew.rdG rfl rfl (EvB (t0 rfl) (decide_eq_false (fun h => h rfl))) rfl (Rd.move (t18 rfl rfl)) ?_
    refine DNew.rdG rfl rfl (EvB (t1 rfl rfl) (decide_eq_false (fun h => h rfl))) rfl (Rd.move (t18 rfl rfl)) ?_
    refine DNew.rdG rfl rfl (EvB (t2 rfl rfl) (decide_eq_false (fun h => h rfl))) rfl (Rd.sIdx Try.runUnderlying38 Try.sizeOf74 (t1 rfl rfl) (t0 rfl) (SIn.row (by repeat (first | exact .here | apply Take.there))) hwlen (by omega) (by omega)) ?_
    refine DNew.rdG rfl rfl (EvB (t3 rfl rfl) (decide_eq_false (fun h => h rfl))) rfl (Rd.sFld0 fld_74_1 (t0 rfl) (SIn.row (by repeat (first | exact .here | apply Take.there))) hy2) ?_
    refine DNew.rdG rfl rfl (EvB (t4 rfl rfl) (decide_eq_false (fun h => h rfl))) rfl (Rd.sLd Try.isAgg28 (t0 rfl) (SIn.row (by repeat (first | exact .here | apply Take.there))) hy rfl) ?_
    refine DNew.rdG rfl rfl (EvB (t5 rfl rfl) (decide_eq_false (fun h => h rfl))) rfl (Rd.byStr Try.underlying28 Try.underlying5 Try.underlying9 (t0 rfl) (SIn.bytesL (by repeat (first | exact .here | apply Take.there)) hp hq) rfl) ?_
    refine DNew.rdG rfl rfl (EvB (t6 rfl rfl) (decide_eq_false (fun h => h rfl))) rfl ((by first | exact Rd.fld0 fld_51_1 (t26 rfl rfl) | exact Rd.fld fld_51_1 (t26 rfl rfl))) ?_
    refine DNew.rdG rfl rfl (EvB (t7 rfl rfl) (decide_eq_false (fun h => h rfl))) rfl (Rd.ldN Try.isAgg49 (t0 rfl) (by repeat (first | exact .own | exact .rd | apply Blk.there)) (by repeat (first | exact .zero | apply Nth.succ))) ?_
    refine DNew.rdG rfl rfl (EvB (t8 rfl rfl) (decide_eq_false (fun h => h rfl))) rfl (Rd.move (t25 rfl rfl)) ?_
    refine DNew.rdG rfl rfl (EvB (t9 rfl rfl) (decide_eq_false (fun h => h rfl))) rfl (Rd.sIdx Try.runUnderlying49 Try.sizeOf65 (t1 rfl rfl) (t0 rfl) (SIn.rowR (by repeat (first | exact .here | apply Take.there))) (by simp) (by omega) (by omega)) ?_
    refine DNew.rdG rfl rfl (EvB (t10 rfl rfl) (decide_eq_false (fun h => h rfl))) rfl (Rd.sFld0 fld_65_1 (t0 rfl) (SIn.rowR (by repeat (first | exact .here | apply Take.there))) hx2) ?_
    refine DNew.rdG rfl rfl (EvB (t11 rfl rfl) (decide_eq_false (fun h => h rfl))) rfl (Rd.sLd Try.isAgg9 (t0 rfl) (SIn.rowR (by repeat (first | exact .here | apply Take.there))) hx rfl) ?_
    refine DNew.rdG rfl rfl (EvB (t12 rfl rfl) (decide_eq_false (fun h => h rfl))) rfl (Rd.str_neq (t6 rfl rfl) (t0 rfl)) ?_
    refine DNew.rd rfl (Rd.pickF (EvB (t13 rfl rfl) (decide_eq_false (fun h => h rfl))) (t0 rfl)) ?_
    refine DNew.nil ?_
    refine At.next ?_
    refine J.condF (EvB (t0 rfl) (decide_eq_false (fun h => h rfl))) ?_
    refine J.skip ?_
    refine At.blkN ?_
    refine At.next ?_
    refine J.live (K := [(6, _), (5, _), (4, _), (3, _), (0, _)]) ⟨(lk31 rfl), (lk32 rfl), (lk33 rfl), (lk34 rfl), (lk35 rfl), trivial⟩ ?_
    intro ρ4
    refine J.region ?_
    refine JL.rd (Rd.move (t0 rfl)) ?_
    refine JL.rd (Rd.add (t0 rfl) Ev.c (w64 (by omega) (by omega))) ?_
    refine JL.rd (Rd.assign (t0 rfl)) ?_
    refine JL.nil ?_
    refine At.again (x + 1) ?_ ?_ ⟨lk0.trans (by first | with_reducible rfl | (congr 1; omega) | (simp; done) | (simp [*]; done)), trivial⟩ ⟨(lk4 rfl), (lk5 rfl), (lk6 rfl), (lk7 rfl), trivial⟩ (fun _ => Stars.sel (by repeat (first | exact Sel.nil | apply Sel.cons (by repeat (first | exact .here | apply Take.there)))))
    · omega
    · omega
  · intro hc3
    refine J.exit ?_
    refine At.nextX ?_
    refine At.loopX ?_
    refine At.blkX ?_
    refine At.next ?_
    refine J.seq ?_
    refine J.seq ?_
    refine J.region ?_
    refine JL.rd (Rd.assign Ev.c) ?_
    refine JL.nil ?_
    refine At.next ?_
    refine J.block ?_
    refine J.loop (X := Nat) (fun (x : Nat) => [(7, .int .i64 ((x : Int) - 1))]) (K := [(4, _), (3, _), (0, _)]) (fun x => [dk d D, pts b1 (.cells [Value.slice r1 D.n k1, .slice r2 D.pend.length k2, .int .i64 D.lim, .bool D.down, .int .i64 D.ops].toArray 51), rowR r1 1 (durs D.n D.dur), rowR r2 2 (D.pend.map wcell)]) (fun x => x ≤ D.n + 2) (fun x => D.n + 2 - x) (0) ?_ ⟨lk0.trans (by first | with_reducible rfl | (congr 1; omega) | (simp; done) | (simp [*]; done)), trivial⟩ ⟨(lk7 rfl), (lk8 rfl), (lk9 rfl), trivial⟩ (fun _ => Stars.sel (by repeat (first | exact Sel.nil | apply Sel.cons (by repeat (first | exact .here | apply Take.there))))) ?_
    · exact Nat.zero_le _
    intro x ρ hp
    simp only [List.cons_append, List.nil_append]
    refine J.seq ?_
    refine J.seq ?_
    refine J.region ?_
    refine JL.rd (Rd.move (t0 rfl)) ?_
    refine JL.rd ((by first | exact Rd.fld0 fld_51_0 (t3 rfl rfl) | exact Rd.fldz fld_51_0 (t3 rfl rfl))) ?_
    refine JL.rd (Rd.ldN Try.isAgg48 (t0 rfl) (by repeat (first | exact .own | exact .rd | apply Blk.there)) (by repeat (first | exact .zero | apply Nth.succ))) ?_
    refine JL.rd (Rd.len Try.runUnderlying48 (t0 rfl)) ?_
    refine JL.rd (Rd.leq (t3 rfl rfl) (t0 rfl)) ?_
    refine JL.nil ?_
    refine At.next ?_
    refine J.condD (t0 rfl) ?_ ?_
    · intro hc5
      refine J.skip ?_
      refine At.next ?_
      refine J.seq ?_
      refine J.block ?_
      refine J.seq ?_
      refine J.region ?_
      refine JL.rd (Rd.move (t8 rfl rfl)) ?_
      refine JL.rd (Rd.move (t6 rfl rfl)) ?_
      refine JL.ef (Ef.call (.cons (t1 rfl rfl) (.cons (t0 rfl) .nil)) (read_any d D ((x : Int) - 1)) (by repeat (first | exact Sel.nil | apply Sel.cons (by repeat (first | exact .here | apply Take.there)))) ?_)
      rintro ⟨ra, rc⟩ -
      simp only [List.cons_append, List.nil_append]
      refine JL.rd (Rd.move (t0 rfl)) ?_
      refine JL.rd (Rd.extract (t0 rfl) (by repeat (first | exact .zero | apply Nth.succ))) ?_
      refine JL.rd (Rd.extract (t1 rfl rfl) (by repeat (first | exact .zero | apply Nth.succ))) ?_
      refine JL.rd (Rd.assign (t1 rfl rfl)) ?_
      refine JL.rd (Rd.assign (t1 rfl rfl)) ?_
      refine JL.nil ?_
      refine At.next ?_
      refine J.seq ?_
      refine J.region ?_
      refine JL.rd (Rd.ldB Try.isAgg51 Try.sizeOf51 (t15 rfl rfl) (by repeat (first | exact .own | exact .rd | apply Blk.there)) (by first | rfl | assumption | simp_all)) ?_
      refine JL.rd (Rd.move (t14 rfl rfl)) ?_
      refine JL.ef (Ef.call (.cons (t1 rfl rfl) (.cons (t0 rfl) .nil)) (rread_any r1 r2 k1 k2 D hwf ((x : Int) - 1)) (by repeat (first | exact Sel.nil | apply Sel.cons (by repeat (first | exact .here | apply Take.there)))) ?_)
      rintro - -
      simp only [List.cons_append, List.nil_append]
      refine JL.rd (Rd.move (t0 rfl)) ?_
      refine JL.rd (Rd.extract (t0 rfl) (by repeat (first | exact .zero | apply Nth.succ))) ?_
      refine JL.rd (Rd.extract (t1 rfl rfl) (by repeat (first | exact .zero | apply Nth.succ))) ?_
      refine JL.rd (Rd.assign (t1 rfl rfl)) ?_
      refine JL.rd (Rd.assign (t1 rfl rfl)) ?_
      refine JL.nil ?_
      refine At.next ?_
      refine J.seq ?_
      refine J.region ?_
      refine JL.rd (Rd.move (t9 rfl rfl)) ?_
      refine JL.rd (Rd.byStr Try.underlying28 Try.underlying5 Try.underlying9 (t0 rfl) (by first | (apply SIn.bytes; (repeat (first | exact .here | apply Take.there)); done) | (apply SIn.rowR; (repeat (first | exact .here | apply Take.there)); done) | (apply hA; (repeat (first | exact .here | apply Take.there)); done)) (by first | (simp; done) | (simp; omega) | omega | (simp [*]; done))) ?_
      refine JL.rd (Rd.move (t3 rfl rfl)) ?_
      refine JL.rd (Rd.str_neq (t1 rfl rfl) (t0 rfl)) ?_
      refine JL.rd (Rd.move (t0 rfl)) ?_
      refine JL.rdG rfl (EvB (t0 rfl) (decide_eq_false (fun h => h rfl))) rfl (Rd.move (t13 rfl rfl)) ?_
      refine JL.rdG rfl (EvB (t1 rfl rfl) (decide_eq_false (fun h => h rfl))) rfl (Rd.move (t6 rfl rfl)) ?_
      refine JL.rdG rfl (EvB (t2 rfl rfl) (decide_eq_false (fun h => h rfl))) rfl (Rd.neq (t1 rfl rfl) (t0 rfl)) ?_
      refine JL.rd (Rd.pickF (EvB (t3 rfl rfl) (decide_eq_false (fun h => h rfl))) (t0 rfl)) ?_
      refine JL.nil ?_
      refine At.next ?_
      refine J.condF (EvB (t0 rfl) (decide_eq_false (fun h => h rfl))) ?_
      refine J.skip ?_
      refine At.blkN ?_
      refine At.next ?_
      refine J.live (K := [(7, _), (4, _), (3, _), (0, _)]) ⟨(lk30 rfl), (lk31 rfl), (lk32 rfl), (lk33 rfl), trivial⟩ ?_
      intro ρ6
      refine J.region ?_
      refine JL.rd (Rd.move (t0 rfl)) ?_
      refine JL.rd (Rd.add (t0 rfl) Ev.c (w64 (by omega) (by omega))) ?_
      refine JL.rd (Rd.assign (t0 rfl)) ?_
      refine JL.nil ?_
      refine At.again (x + 1) ?_ ?_ ⟨lk0.trans (by first | with_reducible rfl | (congr 1; omega) | (simp; done) | (simp [*]; done)), trivial⟩ ⟨(lk4 rfl), (lk5 rfl), (lk6 rfl), trivial⟩ (fun _ => Stars.sel (by repeat (first | exact Sel.nil | apply Sel.cons (by repeat (first | exact .here | apply Take.there)))))
      · omega
      · omega
    · intro hc5
      refine J.exit ?_
      refine At.nextX ?_
      refine At.loopX ?_
      refine At.blkX ?_
      refine At.next ?_
      refine J.seq ?_
      refine J.region ?_
      refine JL.rd (Rd.assign Ev.c) ?_
      refine JL.nil ?_
      refine At.next ?_
      refine J.ret ?_
      exact At.ret (()) (trivial) (ResV.one rfl (t0 rfl)) rfl (fun _ => Stars.sel (by repeat (first | exact Sel.nil | apply Sel.cons (by repeat (first | exact .here | apply Take.there)))))
end Go.Proofs.Ytfnoaohbjlnkgaa
