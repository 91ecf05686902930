/-
  Walks, printed by mk.py.
-/
import Derived.Test.YtfnoaohbjlnkgaaD0
namespace Go.Proofs.Ytfnoaohbjlnkgaa
attribute [local irreducible] J JL At Rd Ef DNew DCar DRun Then RetQ LoopQ


set_option maxRecDepth 100000 in
set_option maxHeartbeats 400000 in
theorem reach_any (d : Nat) (D : Dk) (i : Int) :
    Fn Try.prog 37 [.pointer (some ⟨d, 0, none⟩), .int .i64 i] [dk d D] (X := Unit) (fun _ => True) (fun _ => .int .i64 (reachC D i)) (fun _ => [dk d D]) := by
  refine Fn.mk' (n := 24) (l := [(0, .pointer (some ⟨d, 0, none⟩)), (1, .int .i64 i)]) (fn := Try.f37) Try.func37 (by kernel_rfl) rfl rfl (by simp) rfl ?_
  intro h0 w0
  refine J.openA dk_open ?_
  rintro ⟨m, mp, a, cap⟩ ⟨hwf, hdur⟩
  simp only [dparts, List.cons_append, List.nil_append]
  refine J.seq ?_
  refine J.region ?_
  refine JL.rd (Rd.assign Ev.c) ?_
  refine JL.nil ?_
  refine At.next ?_
  refine J.seq ?_
  refine J.block ?_
  refine J.seq ?_
  refine J.region ?_
  refine JL.rd (Rd.move (t1 rfl rfl)) ?_
  refine JL.rd (Rd.eqlNil (t0 rfl) Try.runUnderlying23) ?_
  refine JL.rd (Rd.assign (t0 rfl)) ?_
  refine JL.nil ?_
  refine At.next ?_
  refine J.condF (EvB (t0 rfl) rfl) ?_
  refine J.seq ?_
  refine J.region ?_
  refine JL.rd (Rd.move (t4 rfl rfl)) ?_
  refine JL.rd (Rd.nil (t0 rfl)) ?_
  refine JL.rd ((by first | exact Rd.fld0 fld_81_5 (t0 rfl) | exact Rd.fld fld_81_5 (t0 rfl))) ?_
  refine JL.rd (Rd.ldN Try.isAgg4 (t0 rfl) (by repeat (first | exact .own | exact .rd | apply Blk.there)) (by repeat (first | exact .zero | apply Nth.succ))) ?_
  refine JL.rd (Rd.assign (t0 rfl)) ?_
  refine JL.nil ?_
  refine At.next ?_
  refine J.cond (t0 rfl) ?_ ?_
  · intro hc1
    refine J.seq ?_
    refine J.region ?_
    refine JL.rd (Rd.assign Ev.c) ?_
    refine JL.nil ?_
    refine At.next ?_
    refine J.ret ?_
    refine At.blkR ?_
    refine At.nextR ?_
    exact At.ret (()) (trivial) (ResV.one rfl (t0 rfl)) (by simp [reachC, *]; try omega) (fun _ s => dk_shut hwf hdur (Stars.sel (by repeat (first | exact Sel.nil | apply Sel.cons (by repeat (first | exact .here | apply Take.there)))) s))
  · intro hc1
    refine J.seq ?_
    refine J.region ?_
    refine JL.rd (Rd.move (t10 rfl rfl)) ?_
    refine JL.rd (Rd.lss (t0 rfl) Ev.c) ?_
    refine JL.rd (Rd.move (t0 rfl)) ?_
    refine JL.caseD (t0 rfl) ?_ ?_
    · intro hb2p hb2
      refine JL.skG rfl (EvB (t0 rfl) hb2) rfl ?_
      refine JL.skG rfl (EvB (t1 rfl rfl) hb2) rfl ?_
      refine JL.skG rfl (EvB (t2 rfl rfl) hb2) rfl ?_
      refine JL.skG rfl (EvB (t3 rfl rfl) hb2) rfl ?_
      refine JL.skG rfl (EvB (t4 rfl rfl) hb2) rfl ?_
      refine JL.skG rfl (EvB (t5 rfl rfl) hb2) rfl ?_
      refine JL.rd (Rd.pickT (EvB (t6 rfl rfl) hb2) Ev.c) ?_
      refine JL.rd (Rd.assign (t0 rfl)) ?_
      refine JL.nil ?_
      refine At.next ?_
      refine J.condT (t0 rfl) ?_
      refine J.seq ?_
      refine J.region ?_
      refine JL.rd (Rd.assign Ev.c) ?_
      refine JL.nil ?_
      refine At.next ?_
      refine J.ret ?_
      refine At.blkR ?_
      refine At.nextR ?_
      exact At.ret (()) (trivial) (ResV.one rfl (t0 rfl)) (by simp [reachC, *]; try omega) (fun _ s => dk_shut hwf hdur (Stars.sel (by repeat (first | exact Sel.nil | apply Sel.cons (by repeat (first | exact .here | apply Take.there)))) s))
    · intro hb2p hb2
      refine JL.rdG rfl (EvB (t0 rfl) hb2) rfl (Rd.move (t13 rfl rfl)) ?_
      refine JL.rdG rfl (EvB (t1 rfl rfl) hb2) rfl (Rd.move (t13 rfl rfl)) ?_
      refine JL.rdG rfl (EvB (t2 rfl rfl) hb2) rfl (Rd.nil (t0 rfl)) ?_
      refine JL.rdG rfl (EvB (t3 rfl rfl) hb2) rfl ((by first | exact Rd.fld0 fld_81_0 (t0 rfl) | exact Rd.fldz fld_81_0 (t0 rfl))) ?_
      refine JL.rdG rfl (EvB (t4 rfl rfl) hb2) rfl (Rd.ldN Try.isAgg3 (t0 rfl) (by repeat (first | exact .own | exact .rd | apply Blk.there)) (by repeat (first | exact .zero | apply Nth.succ))) ?_
      refine JL.rdG rfl (EvB (t5 rfl rfl) hb2) rfl (Rd.geq (t4 rfl rfl) (t0 rfl)) ?_
      refine JL.rd (Rd.pickF (EvB (t6 rfl rfl) hb2) (t0 rfl)) ?_
      refine JL.rd (Rd.assign (t0 rfl)) ?_
      refine JL.nil ?_
      refine At.next ?_
      refine J.condD (t0 rfl) ?_ ?_
      · intro hc3
        refine J.seq ?_
        refine J.region ?_
        refine JL.rd (Rd.assign Ev.c) ?_
        refine JL.nil ?_
        refine At.next ?_
        refine J.ret ?_
        refine At.blkR ?_
        refine At.nextR ?_
        exact At.ret (()) (trivial) (ResV.one rfl (t0 rfl)) (by simp [reachC, *]; try omega) (fun _ s => dk_shut hwf hdur (Stars.sel (by repeat (first | exact Sel.nil | apply Sel.cons (by repeat (first | exact .here | apply Take.there)))) s))
      · intro hc3
        refine J.skip ?_
        refine At.blkN ?_
        refine At.next ?_
        refine J.seq ?_
        refine J.region ?_
        refine JL.rd (Rd.assign Ev.c) ?_
        refine JL.nil ?_
        refine At.next ?_
        refine J.ret ?_
        exact At.ret (()) (trivial) (ResV.one rfl (t0 rfl)) (by simp [reachC, *]; try omega) (fun _ s => dk_shut hwf hdur (Stars.sel (by repeat (first | exact Sel.nil | apply Sel.cons (by repeat (first | exact .here | apply Take.there)))) s))

set_option maxRecDepth 100000 in
set_option maxHeartbeats 400000 in
theorem operate_any (d : Nat) (D : Dk) (ho : D.ops < 1099511627776) :
    Fn Try.prog 38 [.pointer (some ⟨d, 0, none⟩)] [dk d D] (X := Unit) (fun _ => True) (fun _ => .int .i64 (operC D)) (fun _ => [dk d D.operated]) := by
  refine Fn.mk' (n := 27) (l := [(0, .pointer (some ⟨d, 0, none⟩))]) (fn := Try.f38) Try.func38 (by kernel_rfl) rfl rfl (by simp) rfl ?_
  intro h0 w0
  refine J.openA dk_open ?_
  rintro ⟨m, mp, a, cap⟩ ⟨hwf, hdur⟩
  simp only [dparts, List.cons_append, List.nil_append]
  have hn := hwf.lim1
  have hn2 := hwf.lim2
  refine J.seq ?_
  refine J.region ?_
  refine JL.rd (Rd.assign Ev.c) ?_
  refine JL.nil ?_
  refine At.next ?_
  refine J.seq ?_
  refine J.seq ?_
  refine J.region ?_
  refine JL.rd (Rd.move (t1 rfl rfl)) ?_
  refine JL.rd (Rd.nil (t0 rfl)) ?_
  refine JL.rd ((by first | exact Rd.fld0 fld_81_4 (t0 rfl) | exact Rd.fld fld_81_4 (t0 rfl))) ?_
  refine JL.rd (Rd.ldN Try.isAgg3 (t0 rfl) (by repeat (first | exact .own | exact .rd | apply Blk.there)) (by repeat (first | exact .zero | apply Nth.succ))) ?_
  refine JL.rd (Rd.eql (t0 rfl) Ev.c) ?_
  refine JL.nil ?_
  refine At.next ?_
  refine J.condD (t0 rfl) ?_ ?_
  · intro hc1
    refine J.seq ?_
    refine J.region ?_
    refine JL.rd (Rd.move (t6 rfl rfl)) ?_
    refine JL.rd (Rd.nil (t0 rfl)) ?_
    refine JL.rd ((by first | exact Rd.fld0 fld_81_5 (t0 rfl) | exact Rd.fld fld_81_5 (t0 rfl))) ?_
    refine JL.ef0 (Ef.st Try.sizeOf4 (t0 rfl) Ev.c rfl (by repeat (first | exact .here | apply Rep.there)) (by repeat (first | exact .own | exact .rd | apply Blk.there)) (by repeat (first | exact .zero | apply SetN.succ)) (by first | rfl | simp) ?_)
    refine JL.nil ?_
    refine At.next ?_
    refine J.seq ?_
    refine J.region ?_
    refine JL.rd (Rd.assign Ev.c) ?_
    refine JL.nil ?_
    refine At.next ?_
    refine J.ret ?_
    refine At.nextR ?_
    exact At.ret (()) (trivial) (ResV.one rfl (t0 rfl)) (by simp [operC, *]) (fun _ s => oper_shut1 hwf hdur (by assumption) (Stars.sel (by repeat (first | exact Sel.nil | apply Sel.cons (by repeat (first | exact .here | apply Take.there)))) s))
  · intro hc1
    refine J.skip ?_
    refine At.next ?_
    refine J.seq ?_
    refine J.region ?_
    refine JL.rd (Rd.move (t6 rfl rfl)) ?_
    refine JL.rd (Rd.move (t7 rfl rfl)) ?_
    refine JL.rd (Rd.nil (t0 rfl)) ?_
    refine JL.rd ((by first | exact Rd.fld0 fld_81_4 (t0 rfl) | exact Rd.fld fld_81_4 (t0 rfl))) ?_
    refine JL.rd (Rd.ldN Try.isAgg3 (t0 rfl) (by repeat (first | exact .own | exact .rd | apply Blk.there)) (by repeat (first | exact .zero | apply Nth.succ))) ?_
    refine JL.rd (Rd.sub (t0 rfl) Ev.c (w64 (by omega) (by omega))) ?_
    refine JL.rd (Rd.max2 (t0 rfl) Ev.c) ?_
    refine JL.rd (Rd.nil (t6 rfl rfl)) ?_
    refine JL.rd ((by first | exact Rd.fld0 fld_81_4 (t0 rfl) | exact Rd.fld fld_81_4 (t0 rfl))) ?_
    refine JL.ef0 (Ef.st Try.sizeOf3 (t0 rfl) (t2 rfl rfl) rfl (by repeat (first | exact .here | apply Rep.there)) (by repeat (first | exact .own | exact .rd | apply Blk.there)) (by repeat (first | exact .zero | apply SetN.succ)) (by first | rfl | simp) ?_)
    refine JL.nil ?_
    refine At.next ?_
    refine J.seq ?_
    refine J.region ?_
    refine JL.rd (Rd.move (t15 rfl rfl)) ?_
    refine JL.rd (Rd.nil (t0 rfl)) ?_
    refine JL.rd ((by first | exact Rd.fld0 fld_81_3 (t0 rfl) | exact Rd.fld fld_81_3 (t0 rfl))) ?_
    refine JL.rd (Rd.ldN Try.isAgg3 (t0 rfl) (by repeat (first | exact .own | exact .rd | apply Blk.there)) (by repeat (first | exact .zero | apply Nth.succ))) ?_
    refine JL.rd (Rd.add (t0 rfl) Ev.c (w64 (by omega) (by omega))) ?_
    refine JL.rd (Rd.nil (t4 rfl rfl)) ?_
    refine JL.rd ((by first | exact Rd.fld0 fld_81_3 (t0 rfl) | exact Rd.fld fld_81_3 (t0 rfl))) ?_
    refine JL.ef0 (Ef.st Try.sizeOf3 (t0 rfl) (t2 rfl rfl) rfl (by repeat (first | exact .here | apply Rep.there)) (by repeat (first | exact .own | exact .rd | apply Blk.there)) (by repeat (first | exact .zero | apply SetN.succ)) (by first | rfl | simp) ?_)
    refine JL.nil ?_
    refine At.next ?_
    refine J.seq ?_
    refine J.region ?_
    refine JL.rd (Rd.assign Ev.c) ?_
    refine JL.nil ?_
    refine At.next ?_
    refine J.ret ?_
    exact At.ret (()) (trivial) (ResV.one rfl (t0 rfl)) (by simp [operC, *]) (fun _ s => oper_shut2 hwf hdur ho (by assumption) (Stars.sel (by repeat (first | exact Sel.nil | apply Sel.cons (by repeat (first | exact .here | apply Take.there)))) s))
end Go.Proofs.Ytfnoaohbjlnkgaa
