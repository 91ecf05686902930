/-
  Walks, printed by mk.py.
-/
import Derived.Test.YtfnoaohbjlnkgaaD0
import Derived.Test.YtfnoaohbjlnkgaaD1
import Derived.Test.YtfnoaohbjlnkgaaD4
import Derived.Test.YtfnoaohbjlnkgaaD6
namespace Go.Proofs.Ytfnoaohbjlnkgaa
attribute [local irreducible] J JL At Rd Ef DNew DCar DRun Then RetQ LoopQ


set_option maxRecDepth 100000 in
set_option maxHeartbeats 400000 in
theorem new_any (n : Int) :
    Fn Try.prog 13 [.int .i64 n] [] (X := Nat) (fun _ => True) (fun x => newV n x) (fun x => if 1 ≤ n ∧ n ≤ 8192 then [dk x (newD n.toNat)] else []) := by
  refine Fn.mk' (n := 14) (l := [(0, .int .i64 n)]) (fn := Try.f13) Try.func13 (by kernel_rfl) rfl rfl (by simp) rfl ?_
  intro h0 w0
  refine J.seq ?_
  refine J.region ?_
  refine JL.rd (Rd.assign Ev.c) ?_
  refine JL.rd (Rd.assign Ev.c) ?_
  refine JL.nil ?_
  refine At.next ?_
  refine J.seq ?_
  refine J.seq ?_
  refine J.region ?_
  refine JL.rd (Rd.move (t2 rfl rfl)) ?_
  refine JL.rd (Rd.lss (t0 rfl) Ev.c) ?_
  refine JL.rd (Rd.move (t0 rfl)) ?_
  refine JL.caseD (t0 rfl) ?_ ?_
  · intro hb1p hb1
    refine JL.skG rfl (EvB (t0 rfl) hb1) rfl ?_
    refine JL.skG rfl (EvB (t1 rfl rfl) hb1) rfl ?_
    refine JL.rd (Rd.pickT (EvB (t2 rfl rfl) hb1) Ev.c) ?_
    refine JL.nil ?_
    refine At.next ?_
    refine J.condT (t0 rfl) ?_
    refine J.seq ?_
    refine J.region ?_
    refine JL.rd (Rd.assign Ev.c) ?_
    refine JL.rd (Rd.assign Ev.c) ?_
    refine JL.nil ?_
    refine At.next ?_
    refine J.ret ?_
    refine At.nextR ?_
    exact At.ret (0) (trivial) (ResV.two rfl (t1 rfl rfl) (t0 rfl)) (by show _ = newV n _; unfold newV; first | (rw [if_neg (by omega)]; done) | (rw [if_pos (by omega)]; done)) (fun _ s => by rw [if_neg (by omega)]; trivial)
  · intro hb1p hb1
    refine JL.rdG rfl (EvB (t0 rfl) hb1) rfl (Rd.move (t5 rfl rfl)) ?_
    refine JL.rdG rfl (EvB (t1 rfl rfl) hb1) rfl (Rd.gtr (t0 rfl) Ev.c) ?_
    refine JL.rd (Rd.pickF (EvB (t2 rfl rfl) hb1) (t0 rfl)) ?_
    refine JL.nil ?_
    refine At.next ?_
    refine J.condD (t0 rfl) ?_ ?_
    · intro hc2
      refine J.seq ?_
      refine J.region ?_
      refine JL.rd (Rd.assign Ev.c) ?_
      refine JL.rd (Rd.assign Ev.c) ?_
      refine JL.nil ?_
      refine At.next ?_
      refine J.ret ?_
      refine At.nextR ?_
      exact At.ret (0) (trivial) (ResV.two rfl (t1 rfl rfl) (t0 rfl)) (by show _ = newV n _; unfold newV; first | (rw [if_neg (by omega)]; done) | (rw [if_pos (by omega)]; done)) (fun _ s => by rw [if_neg (by omega)]; trivial)
    · intro hc2
      refine J.skip ?_
      refine At.next ?_
      refine J.seq ?_
      refine J.region ?_
      refine JL.rd (Rd.move (t8 rfl rfl)) ?_
      refine JL.ef (Ef.mkmap ?_)
      intro m3
      refine JL.rd (Rd.buildS (.cons (t1 rfl rfl) (.cons (t0 rfl) (.cons Ev.c .nil))) bld_81 (by repeat (first | exact FillN.nil | apply FillN.one rfl rfl (by repeat (first | exact SetN.zero | apply SetN.succ))))) ?_
      refine JL.ef (Ef.box (t0 rfl) rfl ?_)
      intro b4
      refine JL.rd (Rd.assign (t0 rfl)) ?_
      refine JL.rd (Rd.assign Ev.c) ?_
      refine JL.nil ?_
      refine At.next ?_
      refine J.ret ?_
      exact At.ret (b4) (trivial) (ResV.two rfl (t1 rfl rfl) (t0 rfl)) (by show _ = newV n _; unfold newV; first | (rw [if_neg (by omega)]; done) | (rw [if_pos (by omega)]; done)) (fun _ s => by rw [if_pos (by omega)]; exact new_shut (by omega) (by omega) s)

set_option maxRecDepth 100000 in
set_option maxHeartbeats 400000 in
theorem clone_any (d : Nat) (D : Dk) :
    Fn Try.prog 31 [.pointer (some ⟨d, 0, none⟩)] [dk d D] (X := Nat) (fun _ => True) (fun c => .pointer (some ⟨c, 0, none⟩)) (fun c => [dk c D, dk d D]) := by
  refine Fn.mk' (n := 21) (l := [(0, .pointer (some ⟨d, 0, none⟩))]) (fn := Try.f31) Try.func31 (by kernel_rfl) rfl rfl (by simp) rfl ?_
  intro h0 w0
  refine J.openA dk_open ?_
  rintro ⟨m, mp, a, cap⟩ ⟨hwf, hdur⟩
  simp only [dparts, List.cons_append, List.nil_append]
  have hpl := hwf.plen
  refine J.seq ?_
  refine J.region ?_
  refine JL.rd (Rd.assign Ev.c) ?_
  refine JL.nil ?_
  refine At.next ?_
  refine J.seq ?_
  refine J.seq ?_
  refine J.region ?_
  refine JL.rd (Rd.move (t1 rfl rfl)) ?_
  refine JL.rd (Rd.eqlNil (t0 rfl) Try.runUnderlying23) ?_
  refine JL.nil ?_
  refine At.next ?_
  refine J.condF (EvB (t0 rfl) rfl) ?_
  refine J.skip ?_
  refine At.next ?_
  refine J.seq ?_
  refine J.region ?_
  refine JL.rd (Rd.move (t3 rfl rfl)) ?_
  refine JL.rd (Rd.nil (t0 rfl)) ?_
  refine JL.rd (Rd.ldB Try.isAgg81 Try.sizeOf81 (t0 rfl) (by repeat (first | exact .own | exact .rd | apply Blk.there)) (by first | rfl | assumption | simp_all)) ?_
  refine JL.ef (Ef.alloc Try.zeroValue81 rfl ?_)
  intro b1
  refine JL.ef0 (Ef.stB Try.sizeOf81 (t0 rfl) (t1 rfl rfl) (by repeat (first | exact .here | apply Rep.there)) (by repeat (first | exact .own | exact .rd | apply Blk.there)) (by first | rfl | assumption | simp_all) (by first | rfl | assumption | simp_all) (by first | exact bv_one _ | exact cons_one rfl (bv_one _) | (simp [Value.oneCell']; done) | (simp [Value.oneCell', str]; done)) (by decide) ?_)
  refine JL.nil ?_
  refine At.next ?_
  refine J.seq ?_
  refine J.draw [⟨false, 0, 0⟩, ⟨false, 0, 0⟩, ⟨false, 0, 0⟩, ⟨false, 0, 0⟩, ⟨true, 0, 0⟩, ⟨false, 0, 1⟩, ⟨false, 0, 1⟩, ⟨false, 0, 1⟩, ⟨false, 0, 1⟩, ⟨true, 1, 1⟩, ⟨false, 2, 2⟩, ⟨true, 2, 2⟩, ⟨false, 3, 3⟩, ⟨true, 3, 3⟩] [4, 9, 11, 13] mixed rfl ?_
  refine DRun.at [] [0, 1, 2, 3, 5, 6, 7, 8] rfl rfl ?_ ?_
  · exact .nil
  refine DNew.rd rfl (Rd.move (t7 rfl rfl)) ?_
  refine DNew.rd rfl (Rd.nil (t0 rfl)) ?_
  refine DNew.rd rfl ((by first | exact Rd.fld0 fld_81_1 (t0 rfl) | exact Rd.fld fld_81_1 (t0 rfl))) ?_
  refine DNew.rd rfl (Rd.ldN Try.isAgg78 (t0 rfl) (by repeat (first | exact .own | exact .rd | apply Blk.there)) (by repeat (first | exact .zero | apply Nth.succ))) ?_
  refine DNew.rd rfl (Rd.move (t11 rfl rfl)) ?_
  refine DNew.rd rfl (Rd.nil (t0 rfl)) ?_
  refine DNew.rd rfl ((by first | exact Rd.fld0 fld_81_2 (t0 rfl) | exact Rd.fld fld_81_2 (t0 rfl))) ?_
  refine DNew.rd rfl (Rd.ldN Try.isAgg79 (t0 rfl) (by repeat (first | exact .own | exact .rd | apply Blk.there)) (by repeat (first | exact .zero | apply Nth.succ))) ?_
  refine DNew.nil ?_
  refine DRun.ef rfl (Ef.call (.cons (t4 rfl rfl) .nil) (mapsclone_any m mp) (by repeat (first | exact Sel.nil | apply Sel.cons (by repeat (first | exact .here | apply Take.there)))) ?_)
  rintro m2 -
  simp only [List.cons_append, List.nil_append]
  refine DRun.at [5, 6, 7, 8] [] rfl rfl ?_ ?_
  · refine DCar.rd rfl (lk4 rfl) (Rd.move (t16 rfl rfl)) ?_
    refine DCar.rd rfl (lk3 rfl) (Rd.nil (t4 rfl rfl)) ?_
    refine DCar.rd rfl (lk2 rfl) ((by first | exact Rd.fld0 fld_81_2 (t3 rfl rfl) | exact Rd.fld fld_81_2 (t3 rfl rfl))) ?_
    refine DCar.rd rfl (lk1 rfl) (Rd.ldN Try.isAgg79 (t2 rfl rfl) (by repeat (first | exact .own | exact .rd | apply Blk.there)) (by repeat (first | exact .zero | apply Nth.succ))) ?_
    exact .nil
  refine DNew.nil ?_
  refine DRun.ef rfl (Ef.call (.cons (t1 rfl rfl) .nil) (slclone_any a D.pend.length cap (D.pend.map pcell) (by simp) hpl pend_one) (by repeat (first | exact Sel.nil | apply Sel.cons (by repeat (first | exact .here | apply Take.there)))) ?_)
  rintro ⟨a2, cap2⟩ -
  simp only [List.cons_append, List.nil_append]
  refine DRun.at [] [10] rfl rfl ?_ ?_
  · exact .nil
  refine DNew.rd rfl ((by first | exact Rd.fld0 fld_81_1 (t10 rfl rfl) | exact Rd.fld fld_81_1 (t10 rfl rfl))) ?_
  refine DNew.nil ?_
  refine DRun.ef0 rfl (Ef.st Try.sizeOf78 (t0 rfl) (t2 rfl rfl) rfl (by repeat (first | exact .here | apply Rep.there)) (by repeat (first | exact .own | exact .rd | apply Blk.there)) (by repeat (first | exact .zero | apply SetN.succ)) (by first | rfl | simp) ?_)
  refine DRun.at [] [12] rfl rfl ?_ ?_
  · exact .nil
  refine DNew.rd rfl ((by first | exact Rd.fld0 fld_81_2 (t11 rfl rfl) | exact Rd.fld fld_81_2 (t11 rfl rfl))) ?_
  refine DNew.nil ?_
  refine DRun.ef0 rfl (Ef.st Try.sizeOf79 (t0 rfl) (t2 rfl rfl) rfl (by repeat (first | exact .here | apply Rep.there)) (by repeat (first | exact .own | exact .rd | apply Blk.there)) (by repeat (first | exact .zero | apply SetN.succ)) (by first | rfl | simp) ?_)
  refine DRun.end [] [] rfl rfl ?_ ?_
  · exact .nil
  refine DNew.nil ?_
  refine At.next ?_
  refine J.seq ?_
  refine J.region ?_
  refine JL.rd (Rd.assign (t12 rfl rfl)) ?_
  refine JL.nil ?_
  refine At.next ?_
  refine J.ret ?_
  exact At.ret (b1) (trivial) (ResV.one rfl (t0 rfl)) rfl (fun _ s => dk_shut2 (m := m) (m2 := m2) (a := a) (a2 := a2) (cap := cap) (cap2 := cap2) hwf hdur (Stars.sel (by repeat (first | exact Sel.nil | apply Sel.cons (by repeat (first | exact .here | apply Take.there)))) s))

def fateCells : List Value := [.func (.func 55) #[] #[], .func (.func 56) #[] #[], .func (.func 57) #[] #[]]

set_option maxRecDepth 100000 in
set_option maxHeartbeats 400000 in
theorem fates_any  :
    Fn Try.prog 40 [] [] (X := Nat) (fun _ => True) (fun b => .slice (some ⟨b, 0, none⟩) 3 3) (fun b => [pts b (.cells fateCells.toArray 88)]) := by
  refine Fn.mk' (n := 2) (l := []) (fn := Try.f40) Try.func40 (by kernel_rfl) rfl rfl (by simp) rfl ?_
  intro h0 w0
  refine J.seq ?_
  refine J.region ?_
  refine JL.rd (Rd.assign Ev.c) ?_
  refine JL.nil ?_
  refine At.next ?_
  refine J.seq ?_
  refine J.region ?_
  refine JL.ef (Ef.slitR (cs := fateCells) (e := 88) (.cons Ev.f (.cons Ev.f (.cons Ev.f .nil))) (fun w => by kernel_rfl) ?_)
  intro b1
  refine JL.rd (Rd.assign (t0 rfl)) ?_
  refine JL.nil ?_
  refine At.next ?_
  refine J.ret ?_
  exact At.ret (b1) (trivial) (ResV.one rfl (t0 rfl)) rfl (fun _ => Stars.sel (by repeat (first | exact Sel.nil | apply Sel.cons (by repeat (first | exact .here | apply Take.there)))))

set_option maxRecDepth 100000 in
set_option maxHeartbeats 400000 in
theorem fate1_any (old new : List UInt8) (c : UInt8) (h1 : old.length = 512) (h2 : new.length = 512) :
    Fn Try.prog 55 [.agg (bv old).toArray, .agg (bv new).toArray, .int .u8 (c.toNat : Int)] [] (X := Unit) (fun _ => True) (fun _ => .agg (bv old).toArray) (fun _ => []) := by
  refine Fn.mk' (n := 8) (l := [(0, .agg (bv old).toArray), (1, .agg (bv new).toArray), (2, .int .u8 (c.toNat : Int))]) (fn := Try.f55) Try.func55 (by kernel_rfl) rfl rfl (by simp) rfl ?_
  intro h0 w0
  refine J.seq ?_
  refine J.region ?_
  refine JL.ef (Ef.box (t0 rfl) rfl ?_)
  intro b1
  refine JL.ef (Ef.box (t2 rfl rfl) rfl ?_)
  intro b2
  refine JL.ef (Ef.alloc zero0 rfl ?_)
  intro b3
  refine JL.nil ?_
  refine At.next ?_
  refine J.seq ?_
  refine J.region ?_
  refine JL.rd (Rd.ldB Try.isAgg84 Try.sizeOf84 (t2 rfl rfl) (by repeat (first | exact .own | exact .rd | apply Blk.there)) (by first | rfl | assumption | simp_all)) ?_
  refine JL.ef0 (Ef.stB Try.sizeOf84 (t1 rfl rfl) (t0 rfl) (by repeat (first | exact .here | apply Rep.there)) (by repeat (first | exact .own | exact .rd | apply Blk.there)) (by first | rfl | assumption | simp_all) (by first | rfl | assumption | simp_all) (by first | exact bv_one _ | exact cons_one rfl (bv_one _) | (simp [Value.oneCell']; done) | (simp [Value.oneCell', str]; done)) (by decide) ?_)
  refine JL.nil ?_
  refine At.next ?_
  refine J.ret ?_
  exact At.ret (()) (trivial) (ResV.cell rfl Try.isAgg84 Try.sizeOf84 (t1 rfl rfl) (by repeat (first | exact .own | exact .rd | apply Blk.there)) (by first | rfl | assumption | simp_all)) rfl (fun _ => Stars.sel (by repeat (first | exact Sel.nil | apply Sel.cons (by repeat (first | exact .here | apply Take.there)))))

set_option maxRecDepth 100000 in
set_option maxHeartbeats 400000 in
theorem fate2_any (old new : List UInt8) (c : UInt8) (h1 : old.length = 512) (h2 : new.length = 512) :
    Fn Try.prog 56 [.agg (bv old).toArray, .agg (bv new).toArray, .int .u8 (c.toNat : Int)] [] (X := Unit) (fun _ => True) (fun _ => .agg (bv new).toArray) (fun _ => []) := by
  refine Fn.mk' (n := 8) (l := [(0, .agg (bv old).toArray), (1, .agg (bv new).toArray), (2, .int .u8 (c.toNat : Int))]) (fn := Try.f56) Try.func56 (by kernel_rfl) rfl rfl (by simp) rfl ?_
  intro h0 w0
  refine J.seq ?_
  refine J.region ?_
  refine JL.ef (Ef.box (t0 rfl) rfl ?_)
  intro b1
  refine JL.ef (Ef.box (t2 rfl rfl) rfl ?_)
  intro b2
  refine JL.ef (Ef.alloc zero0 rfl ?_)
  intro b3
  refine JL.nil ?_
  refine At.next ?_
  refine J.seq ?_
  refine J.region ?_
  refine JL.rd (Rd.ldB Try.isAgg84 Try.sizeOf84 (t1 rfl rfl) (by repeat (first | exact .own | exact .rd | apply Blk.there)) (by first | rfl | assumption | simp_all)) ?_
  refine JL.ef0 (Ef.stB Try.sizeOf84 (t1 rfl rfl) (t0 rfl) (by repeat (first | exact .here | apply Rep.there)) (by repeat (first | exact .own | exact .rd | apply Blk.there)) (by first | rfl | assumption | simp_all) (by first | rfl | assumption | simp_all) (by first | exact bv_one _ | exact cons_one rfl (bv_one _) | (simp [Value.oneCell']; done) | (simp [Value.oneCell', str]; done)) (by decide) ?_)
  refine JL.nil ?_
  refine At.next ?_
  refine J.ret ?_
  exact At.ret (()) (trivial) (ResV.cell rfl Try.isAgg84 Try.sizeOf84 (t1 rfl rfl) (by repeat (first | exact .own | exact .rd | apply Blk.there)) (by first | rfl | assumption | simp_all)) rfl (fun _ => Stars.sel (by repeat (first | exact Sel.nil | apply Sel.cons (by repeat (first | exact .here | apply Take.there)))))

set_option maxRecDepth 100000 in
set_option maxHeartbeats 400000 in
theorem fate3_any (old new : List UInt8) (c : UInt8) (h1 : old.length = 512) (h2 : new.length = 512) :
    Fn Try.prog 57 [.agg (bv old).toArray, .agg (bv new).toArray, .int .u8 (c.toNat : Int)] [] (X := Unit) (fun _ => True) (fun _ => .agg (bv (new.take (c.toNat / 3 % 17 * 32) ++ old.drop (c.toNat / 3 % 17 * 32))).toArray) (fun _ => []) := by
  refine Fn.mk' (n := 16) (l := [(0, .agg (bv old).toArray), (1, .agg (bv new).toArray), (2, .int .u8 (c.toNat : Int))]) (fn := Try.f57) Try.func57 (by kernel_rfl) rfl rfl (by simp) rfl ?_
  intro h0 w0
  have hc := c.toNat_lt
  refine J.seq ?_
  refine J.region ?_
  refine JL.ef (Ef.box (t0 rfl) rfl ?_)
  intro b1
  refine JL.ef (Ef.box (t2 rfl rfl) rfl ?_)
  intro b2
  refine JL.ef (Ef.alloc zero0 rfl ?_)
  intro b3
  refine JL.nil ?_
  refine At.next ?_
  refine J.seq ?_
  refine J.draw [⟨false, 0, 0⟩, ⟨false, 0, 0⟩, ⟨false, 0, 0⟩, ⟨false, 0, 0⟩, ⟨false, 0, 0⟩, ⟨false, 0, 0⟩, ⟨false, 0, 0⟩, ⟨true, 0, 0⟩] [7] mixed rfl ?_
  refine DRun.at [] [0, 1, 2, 3, 4, 5, 6] rfl rfl ?_ ?_
  · exact .nil
  refine DNew.rd rfl (Rd.sliceAll Try.runUnderlying84 Try.sizeOf5 (t2 rfl rfl) (by decide)) ?_
  refine DNew.rd rfl (Rd.move (t6 rfl rfl)) ?_
  refine DNew.rd rfl (Rd.quo (t0 rfl) Ev.c (by omega) (by omega) (w8 (by omega) (by omega))) ?_
  refine DNew.rd rfl (Rd.conv (t0 rfl) (fun w => ⟨_, Try.runUnderlying5 w⟩) Try.runUnderlying3 (w64 (by omega) (by omega))) ?_
  refine DNew.rd rfl (Rd.rem (t0 rfl) Ev.c (by omega) (by omega)) ?_
  refine DNew.rd rfl (Rd.mul (t0 rfl) Ev.c (w64 (by omega) (by omega))) ?_
  refine DNew.rd rfl (Rd.sliceTo Try.runUnderlying84 Try.sizeOf5 (t7 rfl rfl) (t0 rfl) (by omega) (by omega) (by decide)) ?_
  refine DNew.nil ?_
  refine DRun.ef rfl (Ef.copy (m := c.toNat / 3 % 17 * 32) (vs := bv (new.take (c.toNat / 3 % 17 * 32))) (t := 28) rfl Try.runUnderlying28 Try.sizeOf5 (t6 rfl rfl) (t0 rfl) (by repeat (first | exact .here | apply Rep.there)) (by repeat (first | exact .own | exact .rd | apply Blk.there)) (by repeat (first | exact .own | exact .rd | apply Blk.there)) (by omega) (by rw [List.drop_zero, ← bv_take]) (by simp; omega) (bv_one _) (by simp; omega) (by omega) (by omega) ?_)
  refine DRun.end [] [] rfl rfl ?_ ?_
  · exact .nil
  refine DNew.nil ?_
  refine At.next ?_
  refine J.seq ?_
  rw [splice_bv (by omega)]
  have hfl : (new.take (c.toNat / 3 % 17 * 32) ++ old.drop (c.toNat / 3 % 17 * 32)).length = 512 := by simp; omega
  refine J.region ?_
  refine JL.rd (Rd.ldB Try.isAgg84 Try.sizeOf84 (t10 rfl rfl) (by repeat (first | exact .own | exact .rd | apply Blk.there)) (by first | rfl | assumption | simp_all)) ?_
  refine JL.ef0 (Ef.stB Try.sizeOf84 (t9 rfl rfl) (t0 rfl) (by repeat (first | exact .here | apply Rep.there)) (by repeat (first | exact .own | exact .rd | apply Blk.there)) (by first | rfl | assumption | simp_all) (by first | rfl | assumption | simp_all) (by first | exact bv_one _ | exact cons_one rfl (bv_one _) | (simp [Value.oneCell']; done) | (simp [Value.oneCell', str]; done)) (by decide) ?_)
  refine JL.nil ?_
  refine At.next ?_
  refine J.ret ?_
  exact At.ret (()) (trivial) (ResV.cell rfl Try.isAgg84 Try.sizeOf84 (t9 rfl rfl) (by repeat (first | exact .own | exact .rd | apply Blk.there)) (by first | rfl | assumption | simp_all)) rfl (fun _ => Stars.sel (by repeat (first | exact Sel.nil | apply Sel.cons (by repeat (first | exact .here | apply Take.there)))))

theorem fate_fn (old new : List UInt8) (c : UInt8) (h1 : old.length = 512) (h2 : new.length = 512) : ∃ f, fateCells[c.toNat % 3]? = some (.func (.func f) #[] #[]) ∧
    Fn Try.prog f [.agg (bv old).toArray, .agg (bv new).toArray, .int .u8 (c.toNat : Int)] [] (X := Unit) (fun _ => True) (fun _ => .agg (bv (fate c old new)).toArray) (fun _ => []) := by
  have h3 : c.toNat % 3 = 0 ∨ c.toNat % 3 = 1 ∨ c.toNat % 3 = 2 := by omega
  rcases h3 with h | h | h
  · refine ⟨_, by rw [h]; rfl, ?_⟩
    have e : fate c old new = old := by simp [fate, fateN, h]
    rw [e]; exact fate1_any old new c h1 h2
  · refine ⟨_, by rw [h]; rfl, ?_⟩
    have e : fate c old new = new := by simp [fate, fateN, h, ← h2, h1]
    rw [e]; exact fate2_any old new c h1 h2
  · refine ⟨_, by rw [h]; rfl, ?_⟩
    have e : fate c old new = new.take (c.toNat / 3 % 17 * 32) ++ old.drop (c.toNat / 3 % 17 * 32) := by simp [fate, fateN, h]
    rw [e]; exact fate3_any old new c h1 h2

set_option maxRecDepth 100000 in
set_option maxHeartbeats 400000 in
theorem read_any (d : Nat) (D : Dk) (i : Int) :
    Fn Try.prog 19 [.pointer (some ⟨d, 0, none⟩), .int .i64 i] [dk d D] (X := Option Addr × Nat) (fun _ => True) (fun x => .tuple #[.slice x.1 (readB D i).length x.2, .int .i64 (reachC D i)]) (fun x => [dk d D, bytesA x.1 x.2 (readB D i)]) := by
  refine Fn.mk' (n := 18) (l := [(0, .pointer (some ⟨d, 0, none⟩)), (1, .int .i64 i)]) (fn := Try.f19) Try.func19 (by kernel_rfl) rfl rfl (by simp) rfl ?_
  intro h0 w0
  refine J.seq ?_
  refine J.region ?_
  refine JL.rd (Rd.assign Ev.c) ?_
  refine JL.rd (Rd.assign Ev.c) ?_
  refine JL.nil ?_
  refine At.next ?_
  refine J.seq ?_
  refine J.seq ?_
  refine J.region ?_
  refine JL.rd (Rd.move (t2 rfl rfl)) ?_
  refine JL.rd (Rd.move (t4 rfl rfl)) ?_
  refine JL.ef (Ef.call (.cons (t1 rfl rfl) (.cons (t0 rfl) .nil)) (reach_any d D i) (by repeat (first | exact Sel.nil | apply Sel.cons (by repeat (first | exact .here | apply Take.there)))) ?_)
  rintro - -
  simp only [List.cons_append, List.nil_append]
  refine JL.rd (Rd.assign (t0 rfl)) ?_
  refine JL.nil ?_
  refine At.next ?_
  refine J.seq ?_
  refine J.region ?_
  refine JL.rd (Rd.move (t0 rfl)) ?_
  refine JL.rd (Rd.neq (t0 rfl) Ev.c) ?_
  refine JL.nil ?_
  refine At.next ?_
  refine J.condD (t0 rfl) ?_ ?_
  · intro hc1
    refine J.seq ?_
    refine J.region ?_
    refine JL.rd (Rd.move (t2 rfl rfl)) ?_
    refine JL.rd (Rd.assign Ev.c) ?_
    refine JL.rd (Rd.assign (t1 rfl rfl)) ?_
    refine JL.nil ?_
    refine At.next ?_
    refine J.ret ?_
    refine At.nextR ?_
    exact At.ret ((none, 0)) (trivial) (ResV.two rfl (t1 rfl rfl) (t0 rfl)) (by simp [readB, *]) (fun _ s => by have e : readB D i = [] := (by simp [readB, *]); show Stars [dk d D, bytesA none 0 (readB D i)] _; rw [e]; exact Stars.swap (bytes_nil s))
  · intro hc1
    have hr : reachC D i = 0 := by simpa using hc1
    obtain ⟨hdn, hi0, hin⟩ := reach_zero hr
    obtain ⟨k, rfl⟩ : ∃ k : Nat, i = (k : Int) := ⟨i.toNat, by omega⟩
    have hk : k < D.n := by omega
    refine J.know (fun h s => dk_wf s) ?_
    intro hwf
    have hvl := hwf.vis k
    refine J.skip ?_
    refine At.next ?_
    refine J.seq ?_
    refine J.region ?_
    refine JL.rd (Rd.move (t8 rfl rfl)) ?_
    refine JL.rd (Rd.move (t10 rfl rfl)) ?_
    refine JL.ef (Ef.call (.cons (t1 rfl rfl) (.cons (t0 rfl) .nil)) (visible_any d D k hk) (by repeat (first | exact Sel.nil | apply Sel.cons (by repeat (first | exact .here | apply Take.there)))) ?_)
    rintro - -
    simp only [List.cons_append, List.nil_append]
    refine JL.ef (Ef.alloc zero0 rfl ?_)
    intro b2
    refine JL.ef0 (Ef.stB Try.sizeOf84 (t0 rfl) (t1 rfl rfl) (by repeat (first | exact .here | apply Rep.there)) (by repeat (first | exact .own | exact .rd | apply Blk.there)) (by first | rfl | assumption | simp_all) (by first | rfl | assumption | simp_all) (by first | exact bv_one _ | exact cons_one rfl (bv_one _) | (simp [Value.oneCell']; done) | (simp [Value.oneCell', str]; done)) (by decide) ?_)
    refine JL.nil ?_
    refine At.next ?_
    refine J.seq ?_
    refine J.region ?_
    refine JL.rd (Rd.sliceAll Try.runUnderlying84 Try.sizeOf5 (t0 rfl) (by decide)) ?_
    refine JL.rd (Rd.assign (t0 rfl)) ?_
    refine JL.rd (Rd.assign Ev.c) ?_
    refine JL.nil ?_
    refine At.next ?_
    refine J.ret ?_
    exact At.ret ((some ⟨b2, 0, none⟩, 512)) (trivial) (ResV.two rfl (t1 rfl rfl) (t0 rfl)) (by simp [readB, *]) (fun _ s => by have e : readB D k = D.vis k := (by simp [readB, *]); show Stars [dk d D, bytesA (some ⟨b2, 0, none⟩) 512 (readB D k)] _; rw [e]; have s1 := Stars.sel (pre := [pts b2 (.cells (bv (D.vis k)).toArray 84), dk d D]) (by repeat (first | exact Sel.nil | apply Sel.cons (by repeat (first | exact .here | apply Take.there)))) s; exact Stars.swap (bytes_all hvl (by decide) s1))
end Go.Proofs.Ytfnoaohbjlnkgaa
