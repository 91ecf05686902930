/-
  Walks, printed by mk.py.
-/
import Derived.Test.YtfnoaohbjlnkgaaD0
namespace Go.Proofs.Ytfnoaohbjlnkgaa
attribute [local irreducible] J JL At Rd Ef DNew DCar DRun Then RetQ LoopQ


set_option maxRecDepth 100000 in
set_option maxHeartbeats 400000 in
theorem blocks_any (d : Nat) (D : Dk) :
    Fn Try.prog 24 [.pointer (some ⟨d, 0, none⟩)] [dk d D] (X := Unit) (fun _ => True) (fun _ => .int .i64 D.n) (fun _ => [dk d D]) := by
  refine Fn.mk' (n := 9) (l := [(0, .pointer (some ⟨d, 0, none⟩))]) (fn := Try.f24) Try.func24 (by kernel_rfl) rfl rfl (by simp) rfl ?_
  intro h0 w0
  refine J.openA dk_open ?_
  rintro ⟨m, mp, a, cap⟩ ⟨hwf, hdur⟩
  simp only [dparts, List.cons_append, List.nil_append]
  refine J.seq ?_
  refine J.region ?_
  refine JL.rd (Rd.assign Ev.c) ?_
  refine JL.nil ?_
  refine At.next ?_
  refine J.seq ?_
  refine J.seq ?_
  refine J.region ?_
  refine JL.rd (Rd.move (t1 rfl rfl)) ?_
  refine JL.rd (Rd.eqlNil (t0 rfl) Try.runUnderlying23) ?_
  refine JL.nil ?_
  refine At.next ?_
  refine J.condF (EvB (t0 rfl) rfl) ?_
  refine J.skip ?_
  refine At.next ?_
  refine J.seq ?_
  refine J.region ?_
  refine JL.rd (Rd.move (t3 rfl rfl)) ?_
  refine JL.rd (Rd.nil (t0 rfl)) ?_
  refine JL.rd ((by first | exact Rd.fld0 fld_81_0 (t0 rfl) | exact Rd.fldz fld_81_0 (t0 rfl))) ?_
  refine JL.rd (Rd.ldN Try.isAgg3 (t0 rfl) (by repeat (first | exact .own | exact .rd | apply Blk.there)) (by repeat (first | exact .zero | apply Nth.succ))) ?_
  refine JL.rd (Rd.assign (t0 rfl)) ?_
  refine JL.nil ?_
  refine At.next ?_
  refine J.ret ?_
  exact At.ret (()) (trivial) (ResV.one rfl (t0 rfl)) rfl (fun _ s => dk_shut hwf hdur (Stars.sel (by repeat (first | exact Sel.nil | apply Sel.cons (by repeat (first | exact .here | apply Take.there)))) s))

set_option maxRecDepth 100000 in
set_option maxHeartbeats 400000 in
theorem operations_any (d : Nat) (D : Dk) :
    Fn Try.prog 23 [.pointer (some ⟨d, 0, none⟩)] [dk d D] (X := Unit) (fun _ => True) (fun _ => .int .i64 D.ops) (fun _ => [dk d D]) := by
  refine Fn.mk' (n := 9) (l := [(0, .pointer (some ⟨d, 0, none⟩))]) (fn := Try.f23) Try.func23 (by kernel_rfl) rfl rfl (by simp) rfl ?_
  intro h0 w0
  refine J.openA dk_open ?_
  rintro ⟨m, mp, a, cap⟩ ⟨hwf, hdur⟩
  simp only [dparts, List.cons_append, List.nil_append]
  refine J.seq ?_
  refine J.region ?_
  refine JL.rd (Rd.assign Ev.c) ?_
  refine JL.nil ?_
  refine At.next ?_
  refine J.seq ?_
  refine J.seq ?_
  refine J.region ?_
  refine JL.rd (Rd.move (t1 rfl rfl)) ?_
  refine JL.rd (Rd.eqlNil (t0 rfl) Try.runUnderlying23) ?_
  refine JL.nil ?_
  refine At.next ?_
  refine J.condF (EvB (t0 rfl) rfl) ?_
  refine J.skip ?_
  refine At.next ?_
  refine J.seq ?_
  refine J.region ?_
  refine JL.rd (Rd.move (t3 rfl rfl)) ?_
  refine JL.rd (Rd.nil (t0 rfl)) ?_
  refine JL.rd ((by first | exact Rd.fld0 fld_81_3 (t0 rfl) | exact Rd.fld fld_81_3 (t0 rfl))) ?_
  refine JL.rd (Rd.ldN Try.isAgg3 (t0 rfl) (by repeat (first | exact .own | exact .rd | apply Blk.there)) (by repeat (first | exact .zero | apply Nth.succ))) ?_
  refine JL.rd (Rd.assign (t0 rfl)) ?_
  refine JL.nil ?_
  refine At.next ?_
  refine J.ret ?_
  exact At.ret (()) (trivial) (ResV.one rfl (t0 rfl)) rfl (fun _ s => dk_shut hwf hdur (Stars.sel (by repeat (first | exact Sel.nil | apply Sel.cons (by repeat (first | exact .here | apply Take.there)))) s))

set_option maxRecDepth 100000 in
set_option maxHeartbeats 400000 in
theorem fail_any (d : Nat) (D : Dk) :
    Fn Try.prog 17 [.pointer (some ⟨d, 0, none⟩)] [dk d D] (X := Unit) (fun _ => True) (fun _ => .tuple #[]) (fun _ => [dk d { D with down := true }]) := by
  refine Fn.mk' (n := 7) (l := [(0, .pointer (some ⟨d, 0, none⟩))]) (fn := Try.f17) Try.func17 (by kernel_rfl) rfl rfl (by simp) rfl ?_
  intro h0 w0
  refine J.openA dk_open ?_
  rintro ⟨m, mp, a, cap⟩ ⟨hwf, hdur⟩
  simp only [dparts, List.cons_append, List.nil_append]
  refine J.seq ?_
  refine J.region ?_
  refine JL.rd (Rd.move (t0 rfl)) ?_
  refine JL.rd (Rd.neqNil (t0 rfl) Try.runUnderlying23) ?_
  refine JL.nil ?_
  refine At.next ?_
  refine J.condT (EvB (t0 rfl) rfl) ?_
  refine J.region ?_
  refine JL.rd (Rd.move (t2 rfl rfl)) ?_
  refine JL.rd (Rd.nil (t0 rfl)) ?_
  refine JL.rd ((by first | exact Rd.fld0 fld_81_5 (t0 rfl) | exact Rd.fld fld_81_5 (t0 rfl))) ?_
  refine JL.ef0 (Ef.st Try.sizeOf4 (t0 rfl) Ev.c rfl (by repeat (first | exact .here | apply Rep.there)) (by repeat (first | exact .own | exact .rd | apply Blk.there)) (by repeat (first | exact .zero | apply SetN.succ)) (by first | rfl | simp) ?_)
  refine JL.nil ?_
  exact At.retN (()) (trivial) (ResV.nores rfl) rfl (fun _ s => dk_shut (D := { D with down := true }) ⟨hwf.n1, hwf.n2, hwf.dur, hwf.pend, hwf.plen, hwf.ops, hwf.lim1, hwf.lim2⟩ hdur (Stars.sel (by repeat (first | exact Sel.nil | apply Sel.cons (by repeat (first | exact .here | apply Take.there)))) s))

set_option maxRecDepth 100000 in
set_option maxHeartbeats 400000 in
theorem setlimit_any (d : Nat) (D : Dk) (i : Int) (hi : i ≤ 9223372036854775807) :
    Fn Try.prog 20 [.pointer (some ⟨d, 0, none⟩), .int .i64 i] [dk d D] (X := Unit) (fun _ => True) (fun _ => .tuple #[]) (fun _ => [dk d { D with lim := max i (-1) }]) := by
  refine Fn.mk' (n := 11) (l := [(0, .pointer (some ⟨d, 0, none⟩)), (1, .int .i64 i)]) (fn := Try.f20) Try.func20 (by kernel_rfl) rfl rfl (by simp) rfl ?_
  intro h0 w0
  refine J.openA dk_open ?_
  rintro ⟨m, mp, a, cap⟩ ⟨hwf, hdur⟩
  simp only [dparts, List.cons_append, List.nil_append]
  refine J.seq ?_
  refine J.region ?_
  refine JL.rd (Rd.move (t0 rfl)) ?_
  refine JL.rd (Rd.neqNil (t0 rfl) Try.runUnderlying23) ?_
  refine JL.nil ?_
  refine At.next ?_
  refine J.condT (EvB (t0 rfl) rfl) ?_
  refine J.region ?_
  refine JL.rd (Rd.move (t2 rfl rfl)) ?_
  refine JL.rd (Rd.move (t4 rfl rfl)) ?_
  refine JL.rd (Rd.max2 (t0 rfl) Ev.c) ?_
  refine JL.rd (Rd.nil (t2 rfl rfl)) ?_
  refine JL.rd ((by first | exact Rd.fld0 fld_81_4 (t0 rfl) | exact Rd.fld fld_81_4 (t0 rfl))) ?_
  refine JL.ef0 (Ef.st Try.sizeOf3 (t0 rfl) (t2 rfl rfl) rfl (by repeat (first | exact .here | apply Rep.there)) (by repeat (first | exact .own | exact .rd | apply Blk.there)) (by repeat (first | exact .zero | apply SetN.succ)) (by first | rfl | simp) ?_)
  refine JL.nil ?_
  exact At.retN (()) (trivial) (ResV.nores rfl) rfl (fun _ s => dk_shut (D := { D with lim := max i (-1) }) ⟨hwf.n1, hwf.n2, hwf.dur, hwf.pend, hwf.plen, hwf.ops, by show -1 ≤ max i (-1); omega, by show max i (-1) ≤ _; omega⟩ hdur (Stars.sel (by repeat (first | exact Sel.nil | apply Sel.cons (by repeat (first | exact .here | apply Take.there)))) s))

set_option maxRecDepth 100000 in
set_option maxHeartbeats 400000 in
theorem down_any (d : Nat) (D : Dk) :
    Fn Try.prog 22 [.pointer (some ⟨d, 0, none⟩)] [dk d D] (X := Unit) (fun _ => True) (fun _ => .bool D.down) (fun _ => [dk d D]) := by
  refine Fn.mk' (n := 11) (l := [(0, .pointer (some ⟨d, 0, none⟩))]) (fn := Try.f22) Try.func22 (by kernel_rfl) rfl rfl (by simp) rfl ?_
  intro h0 w0
  refine J.openA dk_open ?_
  rintro ⟨m, mp, a, cap⟩ ⟨hwf, hdur⟩
  simp only [dparts, List.cons_append, List.nil_append]
  refine J.seq ?_
  refine J.region ?_
  refine JL.rd (Rd.assign Ev.c) ?_
  refine JL.nil ?_
  refine At.next ?_
  refine J.seq ?_
  refine J.region ?_
  refine JL.rd (Rd.move (t1 rfl rfl)) ?_
  refine JL.rd (Rd.neqNil (t0 rfl) Try.runUnderlying23) ?_
  refine JL.rd (Rd.move (t0 rfl)) ?_
  refine JL.rdG rfl (EvB (t0 rfl) rfl) rfl (Rd.move (t4 rfl rfl)) ?_
  refine JL.rdG rfl (EvB (t1 rfl rfl) rfl) rfl (Rd.nil (t0 rfl)) ?_
  refine JL.rdG rfl (EvB (t2 rfl rfl) rfl) rfl ((by first | exact Rd.fld0 fld_81_5 (t0 rfl) | exact Rd.fld fld_81_5 (t0 rfl))) ?_
  refine JL.rdG rfl (EvB (t3 rfl rfl) rfl) rfl (Rd.ldN Try.isAgg4 (t0 rfl) (by repeat (first | exact .own | exact .rd | apply Blk.there)) (by repeat (first | exact .zero | apply Nth.succ))) ?_
  refine JL.rd (Rd.pickT (EvB (t4 rfl rfl) rfl) (t0 rfl)) ?_
  refine JL.rd (Rd.assign (t0 rfl)) ?_
  refine JL.nil ?_
  refine At.next ?_
  refine J.ret ?_
  exact At.ret (()) (trivial) (ResV.one rfl (t0 rfl)) rfl (fun _ s => dk_shut hwf hdur (Stars.sel (by repeat (first | exact Sel.nil | apply Sel.cons (by repeat (first | exact .here | apply Take.there)))) s))
end Go.Proofs.Ytfnoaohbjlnkgaa
