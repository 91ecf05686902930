/-
  Walks, printed by mk.py.
-/
import Derived.Test.YtfnoaohbjlnkgaaD9
namespace Go.Proofs.Ytfnoaohbjlnkgaa
attribute [local irreducible] J JL At Rd Ef DNew DCar DRun Then RetQ LoopQ


set_option maxRecDepth 100000 in
set_option maxHeartbeats 400000 in
theorem reach_nil (i : Int) :
    Fn Try.prog 37 [.pointer none, .int .i64 i] [] (X := Unit) (fun _ => True) (fun _ => .int .i64 1) (fun _ => []) := by
  refine Fn.mk' (n := 24) (l := [(0, .pointer none), (1, .int .i64 i)]) (fn := Try.f37) Try.func37 (by kernel_rfl) rfl rfl (by simp) rfl ?_
  intro h0 w0
  refine J.seq ?_
  refine J.region ?_
  refine JL.rd (Rd.assign Ev.c) ?_
  refine JL.nil ?_
  refine At.next ?_
  refine J.seq ?_
  refine J.block ?_
  refine J.seq ?_
  refine J.region ?_
  refine JL.rd (Rd.move (t1 rfl rfl)) ?_
  refine JL.rd (Rd.eqlNil (t0 rfl) Try.runUnderlying23) ?_
  refine JL.rd (Rd.assign (t0 rfl)) ?_
  refine JL.nil ?_
  refine At.next ?_
  refine J.condT (EvB (t0 rfl) rfl) ?_
  refine J.seq ?_
  refine J.region ?_
  refine JL.rd (Rd.assign Ev.c) ?_
  refine JL.nil ?_
  refine At.next ?_
  refine J.ret ?_
  refine At.blkR ?_
  refine At.nextR ?_
  exact At.ret (()) (trivial) (ResV.one rfl (t0 rfl)) rfl (fun _ => Stars.sel (by repeat (first | exact Sel.nil | apply Sel.cons (by repeat (first | exact .here | apply Take.there)))))

set_option maxRecDepth 100000 in
set_option maxHeartbeats 400000 in
theorem write_nil (i : Int) (v : Value) :
    Fn Try.prog 14 [.pointer none, .int .i64 i, v] [] (X := Unit) (fun _ => True) (fun _ => .int .i64 1) (fun _ => []) := by
  refine Fn.mk' (n := 37) (l := [(0, .pointer none), (1, .int .i64 i), (2, v)]) (fn := Try.f14) Try.func14 (by kernel_rfl) rfl rfl (by simp) rfl ?_
  intro h0 w0
  refine J.seq ?_
  refine J.region ?_
  refine JL.rd (Rd.assign Ev.c) ?_
  refine JL.nil ?_
  refine At.next ?_
  refine J.seq ?_
  refine J.seq ?_
  refine J.region ?_
  refine JL.rd (Rd.move (t1 rfl rfl)) ?_
  refine JL.rd (Rd.move (t3 rfl rfl)) ?_
  refine JL.ef (Ef.call (.cons (t1 rfl rfl) (.cons (t0 rfl) .nil)) (reach_nil _) (by repeat (first | exact Sel.nil | apply Sel.cons (by repeat (first | exact .here | apply Take.there)))) ?_)
  rintro - -
  simp only [List.cons_append, List.nil_append]
  refine JL.rd (Rd.assign (t0 rfl)) ?_
  refine JL.nil ?_
  refine At.next ?_
  refine J.seq ?_
  refine J.region ?_
  refine JL.rd (Rd.move (t0 rfl)) ?_
  refine JL.rd (Rd.neq (t0 rfl) Ev.c) ?_
  refine JL.nil ?_
  refine At.next ?_
  refine J.condT (EvB (t0 rfl) rfl) ?_
  refine J.seq ?_
  refine J.region ?_
  refine JL.rd (Rd.move (t2 rfl rfl)) ?_
  refine JL.rd (Rd.assign (t0 rfl)) ?_
  refine JL.nil ?_
  refine At.next ?_
  refine J.ret ?_
  refine At.nextR ?_
  exact At.ret (()) (trivial) (ResV.one rfl (t0 rfl)) rfl (fun _ => Stars.sel (by repeat (first | exact Sel.nil | apply Sel.cons (by repeat (first | exact .here | apply Take.there)))))

set_option maxRecDepth 100000 in
set_option maxHeartbeats 400000 in
theorem flush_nil  :
    Fn Try.prog 16 [.pointer none] [] (X := Unit) (fun _ => True) (fun _ => .int .i64 1) (fun _ => []) := by
  refine Fn.mk' (n := 36) (l := [(0, .pointer none)]) (fn := Try.f16) Try.func16 (by kernel_rfl) rfl rfl (by simp) rfl ?_
  intro h0 w0
  refine J.seq ?_
  refine J.region ?_
  refine JL.rd (Rd.assign Ev.c) ?_
  refine JL.nil ?_
  refine At.next ?_
  refine J.seq ?_
  refine J.seq ?_
  refine J.region ?_
  refine JL.rd (Rd.move (t1 rfl rfl)) ?_
  refine JL.ef (Ef.call (.cons (t0 rfl) (.cons Ev.c .nil)) (reach_nil _) (by repeat (first | exact Sel.nil | apply Sel.cons (by repeat (first | exact .here | apply Take.there)))) ?_)
  rintro - -
  simp only [List.cons_append, List.nil_append]
  refine JL.rd (Rd.assign (t0 rfl)) ?_
  refine JL.nil ?_
  refine At.next ?_
  refine J.seq ?_
  refine J.region ?_
  refine JL.rd (Rd.move (t0 rfl)) ?_
  refine JL.rd (Rd.neq (t0 rfl) Ev.c) ?_
  refine JL.nil ?_
  refine At.next ?_
  refine J.condT (EvB (t0 rfl) rfl) ?_
  refine J.seq ?_
  refine J.region ?_
  refine JL.rd (Rd.move (t2 rfl rfl)) ?_
  refine JL.rd (Rd.assign (t0 rfl)) ?_
  refine JL.nil ?_
  refine At.next ?_
  refine J.ret ?_
  refine At.nextR ?_
  exact At.ret (()) (trivial) (ResV.one rfl (t0 rfl)) rfl (fun _ => Stars.sel (by repeat (first | exact Sel.nil | apply Sel.cons (by repeat (first | exact .here | apply Take.there)))))

set_option maxRecDepth 100000 in
set_option maxHeartbeats 400000 in
theorem read_nil (i : Int) :
    Fn Try.prog 19 [.pointer none, .int .i64 i] [] (X := Unit) (fun _ => True) (fun _ => .tuple #[.slice none 0 0, .int .i64 1]) (fun _ => []) := by
  refine Fn.mk' (n := 18) (l := [(0, .pointer none), (1, .int .i64 i)]) (fn := Try.f19) Try.func19 (by kernel_rfl) rfl rfl (by simp) rfl ?_
  intro h0 w0
  refine J.seq ?_
  refine J.region ?_
  refine JL.rd (Rd.assign Ev.c) ?_
  refine JL.rd (Rd.assign Ev.c) ?_
  refine JL.nil ?_
  refine At.next ?_
  refine J.seq ?_
  refine J.seq ?_
  refine J.region ?_
  refine JL.rd (Rd.move (t2 rfl rfl)) ?_
  refine JL.rd (Rd.move (t4 rfl rfl)) ?_
  refine JL.ef (Ef.call (.cons (t1 rfl rfl) (.cons (t0 rfl) .nil)) (reach_nil _) (by repeat (first | exact Sel.nil | apply Sel.cons (by repeat (first | exact .here | apply Take.there)))) ?_)
  rintro - -
  simp only [List.cons_append, List.nil_append]
  refine JL.rd (Rd.assign (t0 rfl)) ?_
  refine JL.nil ?_
  refine At.next ?_
  refine J.seq ?_
  refine J.region ?_
  refine JL.rd (Rd.move (t0 rfl)) ?_
  refine JL.rd (Rd.neq (t0 rfl) Ev.c) ?_
  refine JL.nil ?_
  refine At.next ?_
  refine J.condT (EvB (t0 rfl) rfl) ?_
  refine J.seq ?_
  refine J.region ?_
  refine JL.rd (Rd.move (t2 rfl rfl)) ?_
  refine JL.rd (Rd.assign Ev.c) ?_
  refine JL.rd (Rd.assign (t1 rfl rfl)) ?_
  refine JL.nil ?_
  refine At.next ?_
  refine J.ret ?_
  refine At.nextR ?_
  exact At.ret (()) (trivial) (ResV.two rfl (t1 rfl rfl) (t0 rfl)) rfl (fun _ => Stars.sel (by repeat (first | exact Sel.nil | apply Sel.cons (by repeat (first | exact .here | apply Take.there)))))

set_option maxRecDepth 100000 in
set_option maxHeartbeats 400000 in
theorem restart_nild (v : Value) :
    Fn Try.prog 18 [.pointer none, v] [] (X := Unit) (fun _ => True) (fun _ => .int .i64 1) (fun _ => []) := by
  refine Fn.mk' (n := 65) (l := [(0, .pointer none), (1, v)]) (fn := Try.f18) Try.func18 (by kernel_rfl) rfl rfl (by simp) rfl ?_
  intro h0 w0
  refine J.seq ?_
  refine J.region ?_
  refine JL.rd (Rd.assign Ev.c) ?_
  refine JL.nil ?_
  refine At.next ?_
  refine J.seq ?_
  refine J.block ?_
  refine J.seq ?_
  refine J.region ?_
  refine JL.rd (Rd.move (t1 rfl rfl)) ?_
  refine JL.rd (Rd.eqlNil (t0 rfl) Try.runUnderlying23) ?_
  refine JL.rd (Rd.assign (t0 rfl)) ?_
  refine JL.nil ?_
  refine At.next ?_
  refine J.condT (EvB (t0 rfl) rfl) ?_
  refine J.seq ?_
  refine J.region ?_
  refine JL.rd (Rd.assign Ev.c) ?_
  refine JL.nil ?_
  refine At.next ?_
  refine J.ret ?_
  refine At.blkR ?_
  refine At.nextR ?_
  exact At.ret (()) (trivial) (ResV.one rfl (t0 rfl)) rfl (fun _ => Stars.sel (by repeat (first | exact Sel.nil | apply Sel.cons (by repeat (first | exact .here | apply Take.there)))))

set_option maxRecDepth 100000 in
set_option maxHeartbeats 400000 in
theorem damage_nil (i j : Int) (v : Value) :
    Fn Try.prog 36 [.pointer none, .int .i64 i, .int .i64 j, v] [] (X := Unit) (fun _ => True) (fun _ => .int .i64 1) (fun _ => []) := by
  refine Fn.mk' (n := 82) (l := [(0, .pointer none), (1, .int .i64 i), (2, .int .i64 j), (3, v)]) (fn := Try.f36) Try.func36 (by kernel_rfl) rfl rfl (by simp) rfl ?_
  intro h0 w0
  refine J.seq ?_
  refine J.region ?_
  refine JL.rd (Rd.assign Ev.c) ?_
  refine JL.nil ?_
  refine At.next ?_
  refine J.seq ?_
  refine J.block ?_
  refine J.seq ?_
  refine J.region ?_
  refine JL.rd (Rd.move (t1 rfl rfl)) ?_
  refine JL.rd (Rd.eqlNil (t0 rfl) Try.runUnderlying23) ?_
  refine JL.rd (Rd.assign (t0 rfl)) ?_
  refine JL.nil ?_
  refine At.next ?_
  refine J.condT (EvB (t0 rfl) rfl) ?_
  refine J.seq ?_
  refine J.region ?_
  refine JL.rd (Rd.assign Ev.c) ?_
  refine JL.nil ?_
  refine At.next ?_
  refine J.ret ?_
  refine At.blkR ?_
  refine At.nextR ?_
  exact At.ret (()) (trivial) (ResV.one rfl (t0 rfl)) rfl (fun _ => Stars.sel (by repeat (first | exact Sel.nil | apply Sel.cons (by repeat (first | exact .here | apply Take.there)))))

set_option maxRecDepth 100000 in
set_option maxHeartbeats 400000 in
theorem blocks_nil  :
    Fn Try.prog 24 [.pointer none] [] (X := Unit) (fun _ => True) (fun _ => .int .i64 0) (fun _ => []) := by
  refine Fn.mk' (n := 9) (l := [(0, .pointer none)]) (fn := Try.f24) Try.func24 (by kernel_rfl) rfl rfl (by simp) rfl ?_
  intro h0 w0
  refine J.seq ?_
  refine J.region ?_
  refine JL.rd (Rd.assign Ev.c) ?_
  refine JL.nil ?_
  refine At.next ?_
  refine J.seq ?_
  refine J.seq ?_
  refine J.region ?_
  refine JL.rd (Rd.move (t1 rfl rfl)) ?_
  refine JL.rd (Rd.eqlNil (t0 rfl) Try.runUnderlying23) ?_
  refine JL.nil ?_
  refine At.next ?_
  refine J.condT (EvB (t0 rfl) rfl) ?_
  refine J.seq ?_
  refine J.region ?_
  refine JL.rd (Rd.assign Ev.c) ?_
  refine JL.nil ?_
  refine At.next ?_
  refine J.ret ?_
  refine At.nextR ?_
  exact At.ret (()) (trivial) (ResV.one rfl (t0 rfl)) rfl (fun _ => Stars.sel (by repeat (first | exact Sel.nil | apply Sel.cons (by repeat (first | exact .here | apply Take.there)))))

set_option maxRecDepth 100000 in
set_option maxHeartbeats 400000 in
theorem operations_nil  :
    Fn Try.prog 23 [.pointer none] [] (X := Unit) (fun _ => True) (fun _ => .int .i64 0) (fun _ => []) := by
  refine Fn.mk' (n := 9) (l := [(0, .pointer none)]) (fn := Try.f23) Try.func23 (by kernel_rfl) rfl rfl (by simp) rfl ?_
  intro h0 w0
  refine J.seq ?_
  refine J.region ?_
  refine JL.rd (Rd.assign Ev.c) ?_
  refine JL.nil ?_
  refine At.next ?_
  refine J.seq ?_
  refine J.seq ?_
  refine J.region ?_
  refine JL.rd (Rd.move (t1 rfl rfl)) ?_
  refine JL.rd (Rd.eqlNil (t0 rfl) Try.runUnderlying23) ?_
  refine JL.nil ?_
  refine At.next ?_
  refine J.condT (EvB (t0 rfl) rfl) ?_
  refine J.seq ?_
  refine J.region ?_
  refine JL.rd (Rd.assign Ev.c) ?_
  refine JL.nil ?_
  refine At.next ?_
  refine J.ret ?_
  refine At.nextR ?_
  exact At.ret (()) (trivial) (ResV.one rfl (t0 rfl)) rfl (fun _ => Stars.sel (by repeat (first | exact Sel.nil | apply Sel.cons (by repeat (first | exact .here | apply Take.there)))))

set_option maxRecDepth 100000 in
set_option maxHeartbeats 400000 in
theorem pending_nil  :
    Fn Try.prog 21 [.pointer none] [] (X := Unit) (fun _ => True) (fun _ => .slice none 0 0) (fun _ => []) := by
  refine Fn.mk' (n := 29) (l := [(0, .pointer none)]) (fn := Try.f21) Try.func21 (by kernel_rfl) rfl rfl (by simp) rfl ?_
  intro h0 w0
  refine J.seq ?_
  refine J.region ?_
  refine JL.rd (Rd.assign Ev.c) ?_
  refine JL.nil ?_
  refine At.next ?_
  refine J.seq ?_
  refine J.region ?_
  refine JL.rd (Rd.assign Ev.c) ?_
  refine JL.nil ?_
  refine At.next ?_
  refine J.seq ?_
  refine J.seq ?_
  refine J.region ?_
  refine JL.rd (Rd.move (t2 rfl rfl)) ?_
  refine JL.rd (Rd.eqlNil (t0 rfl) Try.runUnderlying23) ?_
  refine JL.nil ?_
  refine At.next ?_
  refine J.condT (EvB (t0 rfl) rfl) ?_
  refine J.seq ?_
  refine J.region ?_
  refine JL.rd (Rd.move (t2 rfl rfl)) ?_
  refine JL.rd (Rd.assign (t0 rfl)) ?_
  refine JL.nil ?_
  refine At.next ?_
  refine J.ret ?_
  refine At.nextR ?_
  exact At.ret (()) (trivial) (ResV.one rfl (t0 rfl)) rfl (fun _ => Stars.sel (by repeat (first | exact Sel.nil | apply Sel.cons (by repeat (first | exact .here | apply Take.there)))))

set_option maxRecDepth 100000 in
set_option maxHeartbeats 400000 in
theorem down_nil  :
    Fn Try.prog 22 [.pointer none] [] (X := Unit) (fun _ => True) (fun _ => .bool false) (fun _ => []) := by
  refine Fn.mk' (n := 11) (l := [(0, .pointer none)]) (fn := Try.f22) Try.func22 (by kernel_rfl) rfl rfl (by simp) rfl ?_
  intro h0 w0
  refine J.seq ?_
  refine J.region ?_
  refine JL.rd (Rd.assign Ev.c) ?_
  refine JL.nil ?_
  refine At.next ?_
  refine J.seq ?_
  refine J.region ?_
  refine JL.rd (Rd.move (t1 rfl rfl)) ?_
  refine JL.rd (Rd.neqNil (t0 rfl) Try.runUnderlying23) ?_
  refine JL.rd (Rd.move (t0 rfl)) ?_
  refine JL.skG rfl (EvB (t0 rfl) rfl) rfl ?_
  refine JL.skG rfl (EvB (t1 rfl rfl) rfl) rfl ?_
  refine JL.skG rfl (EvB (t2 rfl rfl) rfl) rfl ?_
  refine JL.skG rfl (EvB (t3 rfl rfl) rfl) rfl ?_
  refine JL.rd (Rd.pickF (EvB (t4 rfl rfl) rfl) Ev.c) ?_
  refine JL.rd (Rd.assign (t0 rfl)) ?_
  refine JL.nil ?_
  refine At.next ?_
  refine J.ret ?_
  exact At.ret (()) (trivial) (ResV.one rfl (t0 rfl)) rfl (fun _ => Stars.sel (by repeat (first | exact Sel.nil | apply Sel.cons (by repeat (first | exact .here | apply Take.there)))))

set_option maxRecDepth 100000 in
set_option maxHeartbeats 400000 in
theorem clone_nil  :
    Fn Try.prog 31 [.pointer none] [] (X := Unit) (fun _ => True) (fun _ => .pointer none) (fun _ => []) := by
  refine Fn.mk' (n := 21) (l := [(0, .pointer none)]) (fn := Try.f31) Try.func31 (by kernel_rfl) rfl rfl (by simp) rfl ?_
  intro h0 w0
  refine J.seq ?_
  refine J.region ?_
  refine JL.rd (Rd.assign Ev.c) ?_
  refine JL.nil ?_
  refine At.next ?_
  refine J.seq ?_
  refine J.seq ?_
  refine J.region ?_
  refine JL.rd (Rd.move (t1 rfl rfl)) ?_
  refine JL.rd (Rd.eqlNil (t0 rfl) Try.runUnderlying23) ?_
  refine JL.nil ?_
  refine At.next ?_
  refine J.condT (EvB (t0 rfl) rfl) ?_
  refine J.seq ?_
  refine J.region ?_
  refine JL.rd (Rd.assign Ev.c) ?_
  refine JL.nil ?_
  refine At.next ?_
  refine J.ret ?_
  refine At.nextR ?_
  exact At.ret (()) (trivial) (ResV.one rfl (t0 rfl)) rfl (fun _ => Stars.sel (by repeat (first | exact Sel.nil | apply Sel.cons (by repeat (first | exact .here | apply Take.there)))))

set_option maxRecDepth 100000 in
set_option maxHeartbeats 400000 in
theorem setlimit_nil (v : Value) :
    Fn Try.prog 20 [.pointer none, v] [] (X := Unit) (fun _ => True) (fun _ => .tuple #[]) (fun _ => []) := by
  refine Fn.mk' (n := 11) (l := [(0, .pointer none), (1, v)]) (fn := Try.f20) Try.func20 (by kernel_rfl) rfl rfl (by simp) rfl ?_
  intro h0 w0
  refine J.seq ?_
  refine J.region ?_
  refine JL.rd (Rd.move (t0 rfl)) ?_
  refine JL.rd (Rd.neqNil (t0 rfl) Try.runUnderlying23) ?_
  refine JL.nil ?_
  refine At.next ?_
  refine J.condF (EvB (t0 rfl) rfl) ?_
  refine J.skip ?_
  exact At.retN (()) (trivial) (ResV.nores rfl) rfl (fun _ => Stars.sel (by repeat (first | exact Sel.nil | apply Sel.cons (by repeat (first | exact .here | apply Take.there)))))

set_option maxRecDepth 100000 in
set_option maxHeartbeats 400000 in
theorem fail_nil  :
    Fn Try.prog 17 [.pointer none] [] (X := Unit) (fun _ => True) (fun _ => .tuple #[]) (fun _ => []) := by
  refine Fn.mk' (n := 7) (l := [(0, .pointer none)]) (fn := Try.f17) Try.func17 (by kernel_rfl) rfl rfl (by simp) rfl ?_
  intro h0 w0
  refine J.seq ?_
  refine J.region ?_
  refine JL.rd (Rd.move (t0 rfl)) ?_
  refine JL.rd (Rd.neqNil (t0 rfl) Try.runUnderlying23) ?_
  refine JL.nil ?_
  refine At.next ?_
  refine J.condF (EvB (t0 rfl) rfl) ?_
  refine J.skip ?_
  exact At.retN (()) (trivial) (ResV.nores rfl) rfl (fun _ => Stars.sel (by repeat (first | exact Sel.nil | apply Sel.cons (by repeat (first | exact .here | apply Take.there)))))

set_option maxRecDepth 100000 in
set_option maxHeartbeats 400000 in
theorem equal_nil  :
    Fn Try.prog 34 [.pointer none, .pointer none] [] (X := Unit) (fun _ => True) (fun _ => .bool true) (fun _ => []) := by
  refine Fn.mk' (n := 67) (l := [(0, .pointer none), (1, .pointer none)]) (fn := Try.f34) Try.func34 (by kernel_rfl) rfl rfl (by simp) rfl ?_
  intro h0 w0
  refine J.seq ?_
  refine J.region ?_
  refine JL.rd (Rd.assign Ev.c) ?_
  refine JL.nil ?_
  refine At.next ?_
  refine J.seq ?_
  refine J.seq ?_
  refine J.region ?_
  refine JL.rd (Rd.move (t1 rfl rfl)) ?_
  refine JL.rd (Rd.eqlNil (t0 rfl) Try.runUnderlying23) ?_
  refine JL.rd (Rd.move (t0 rfl)) ?_
  refine JL.skG rfl (EvB (t0 rfl) rfl) rfl ?_
  refine JL.skG rfl (EvB (t1 rfl rfl) rfl) rfl ?_
  refine JL.rd (Rd.pickT (EvB (t2 rfl rfl) rfl) Ev.c) ?_
  refine JL.nil ?_
  refine At.next ?_
  refine J.condT (t0 rfl) ?_
  refine J.seq ?_
  refine J.region ?_
  refine JL.rd (Rd.move (t7 rfl rfl)) ?_
  refine JL.rd (Rd.move (t9 rfl rfl)) ?_
  refine JL.rd (Rd.eqlPP (t1 rfl rfl) (t0 rfl) Try.runUnderlying23) ?_
  refine JL.rd (Rd.assign (t0 rfl)) ?_
  refine JL.nil ?_
  refine At.next ?_
  refine J.ret ?_
  refine At.nextR ?_
  exact At.ret (()) (trivial) (ResV.one rfl (t0 rfl)) rfl (fun _ => Stars.sel (by repeat (first | exact Sel.nil | apply Sel.cons (by repeat (first | exact .here | apply Take.there)))))

set_option maxRecDepth 100000 in
set_option maxHeartbeats 400000 in
theorem used_any (p : Option Addr) :
    Fn Try.prog 25 [.pointer p] [] (X := Nat) (fun _ => True) (fun b => .func (.func 43) #[] #[.pointer (some ⟨b, 0, none⟩)]) (fun b => [pts b (.cells [.pointer p].toArray 23)]) := by
  refine Fn.mk' (n := 4) (l := [(0, .pointer p)]) (fn := Try.f25) Try.func25 (by kernel_rfl) rfl rfl (by simp) rfl ?_
  intro h0 w0
  refine J.seq ?_
  refine J.region ?_
  refine JL.ef (Ef.box (t0 rfl) rfl ?_)
  intro b1
  refine JL.rd (Rd.assign Ev.c) ?_
  refine JL.nil ?_
  refine At.next ?_
  refine J.seq ?_
  refine J.region ?_
  refine JL.rd (Rd.mkfunc .nil (.cons (t1 rfl rfl) .nil)) ?_
  refine JL.rd (Rd.assign (t0 rfl)) ?_
  refine JL.nil ?_
  refine At.next ?_
  refine J.ret ?_
  exact At.ret (b1) (trivial) (ResV.one rfl (t0 rfl)) rfl (fun _ => Stars.sel (by repeat (first | exact Sel.nil | apply Sel.cons (by repeat (first | exact .here | apply Take.there)))))

set_option maxRecDepth 100000 in
set_option maxHeartbeats 400000 in
theorem used1_nil (l : Nat) (G Gx : Nat → Assn) (b : Nat) :
    Fn Try.prog 43 [.func (.yield l) #[] #[], .pointer (some ⟨b, 0, none⟩)] [pts b (.cells [.pointer none].toArray 23), G 0] (X := Option Nat) (fun z => ∀ k, z = some k → k < 0) (fun _ => .tuple #[]) (fun z => [pts b (.cells [.pointer none].toArray 23)] ++ [match z with | none => G 0 | some k => Gx k]) := by
  refine Fn.mk' (n := 34) (l := [(0, .func (.yield l) #[] #[]), (1, .pointer (some ⟨b, 0, none⟩))]) (fn := Try.f43) Try.func43 (by kernel_rfl) rfl rfl (by simp) rfl ?_
  intro h0 w0
  refine J.seq ?_
  refine J.seq ?_
  refine J.region ?_
  refine JL.rd (Rd.ldN Try.isAgg23 (t1 rfl rfl) (by repeat (first | exact .own | exact .rd | apply Blk.there)) (by repeat (first | exact .zero | apply Nth.succ))) ?_
  refine JL.rd (Rd.eqlNil (t0 rfl) Try.runUnderlying23) ?_
  refine JL.rd (Rd.move (t0 rfl)) ?_
  refine JL.skG rfl (EvB (t0 rfl) rfl) rfl ?_
  refine JL.skG rfl (EvB (t1 rfl rfl) rfl) rfl ?_
  refine JL.skG rfl (EvB (t2 rfl rfl) rfl) rfl ?_
  refine JL.skG rfl (EvB (t3 rfl rfl) rfl) rfl ?_
  refine JL.rd (Rd.pickT (EvB (t4 rfl rfl) rfl) Ev.c) ?_
  refine JL.nil ?_
  refine At.next ?_
  refine J.condT (t0 rfl) ?_
  refine J.ret ?_
  refine At.nextR ?_
  exact At.ret (none) (by intro k hk; cases hk) (ResV.nores rfl) rfl (fun _ => Stars.sel (by repeat (first | exact Sel.nil | apply Sel.cons (by repeat (first | exact .here | apply Take.there)))))

theorem used1_ent : Ent Try.prog 43 := ⟨Try.f43, by kernel_rfl, rfl, rfl⟩
theorem used_iter_nil (b : Nat) : Iter Try.prog 43 [.pointer (some ⟨b, 0, none⟩)] [pts b (.cells [.pointer none].toArray 23)] [] [pts b (.cells [.pointer none].toArray 23)] :=
  Iter.of rfl fun l J Jx _ => used1_nil l J Jx b

set_option maxRecDepth 100000 in
set_option maxHeartbeats 400000 in
theorem nil_any (i j : Int) (c : UInt8) :
    Fn Try.prog 11 [.int .i64 i, .int .i64 j, .int .u8 (c.toNat : Int)] [] (X := Unit) (fun _ => True) (fun _ => .bool true) (fun _ => []) := by
  refine Fn.mk' (n := 90) (l := [(0, .int .i64 i), (1, .int .i64 j), (2, .int .u8 (c.toNat : Int))]) (fn := Try.f11) Try.func11 (by kernel_rfl) rfl rfl (by simp) rfl ?_
  intro h0 w0
  refine J.seq ?_
  refine J.region ?_
  refine JL.ef (Ef.alloc Try.zeroValue4 rfl ?_)
  intro b1
  refine JL.nil ?_
  refine At.next ?_
  refine J.seq ?_
  refine J.seq ?_
  refine J.region ?_
  refine JL.ef (Ef.call .nil (known_any) (by repeat (first | exact Sel.nil | apply Sel.cons (by repeat (first | exact .here | apply Take.there)))) ?_)
  rintro - -
  simp only [List.cons_append, List.nil_append]
  refine JL.rd (Rd.not (EvB (t0 rfl) rfl)) ?_
  refine JL.nil ?_
  refine At.next ?_
  refine J.condF (EvB (t0 rfl) rfl) ?_
  refine J.skip ?_
  refine At.next ?_
  refine J.seq ?_
  refine J.region ?_
  refine JL.rd (Rd.assign Ev.c) ?_
  refine JL.nil ?_
  refine At.next ?_
  refine J.seq ?_
  refine J.region ?_
  refine JL.rd (Rd.move (t0 rfl)) ?_
  refine JL.rd (Rd.move (t6 rfl rfl)) ?_
  refine JL.ef (Ef.call (.cons (t1 rfl rfl) (.cons (t0 rfl) .nil)) (setlimit_nil _) (by repeat (first | exact Sel.nil | apply Sel.cons (by repeat (first | exact .here | apply Take.there)))) ?_)
  rintro - -
  simp only [List.cons_append, List.nil_append]
  refine JL.nil ?_
  refine At.next ?_
  refine J.seq ?_
  refine J.region ?_
  refine JL.rd (Rd.move (t3 rfl rfl)) ?_
  refine JL.ef (Ef.call (.cons (t0 rfl) .nil) (fail_nil) (by repeat (first | exact Sel.nil | apply Sel.cons (by repeat (first | exact .here | apply Take.there)))) ?_)
  rintro - -
  simp only [List.cons_append, List.nil_append]
  refine JL.nil ?_
  refine At.next ?_
  refine J.seq ?_
  refine J.seq ?_
  refine J.region ?_
  refine JL.rd (Rd.move (t5 rfl rfl)) ?_
  refine JL.ef (Ef.call (.cons (t0 rfl) .nil) (used_any none) (by repeat (first | exact Sel.nil | apply Sel.cons (by repeat (first | exact .here | apply Take.there)))) ?_)
  rintro bb -
  simp only [List.cons_append, List.nil_append]
  refine JL.nil ?_
  refine At.next ?_
  refine J.block ?_
  refine J.live (K := [(18, _), (7, _), (6, _), (0, _), (1, _), (2, _)]) ⟨lk0, (lk7 rfl), (lk10 rfl), (lk11 rfl), (lk12 rfl), (lk13 rfl), trivial⟩ ?_
  intro ρ2
  refine J.rangeFunc (own := [pts bb (.cells [.pointer none].toArray 23)]) (own' := [pts bb (.cells [.pointer none].toArray 23)]) (xs := []) (fun _ => [pts b1 (.cells [.bool false].toArray 4)]) (fun _ _ => []) (t0 rfl) (used_iter_nil bb) (used1_ent) (by repeat (first | exact Sel.nil | apply Sel.cons (by repeat (first | exact .here | apply Take.there)))) (by simp) (fun _ => Stars.sel (by repeat (first | exact Sel.nil | apply Sel.cons (by repeat (first | exact .here | apply Take.there))))) ?_ ?_ ?_
  · intro l r0 fn k x h0 w0 hx
    exact absurd hx (by simp)
  · intro r0
    simp only [List.cons_append, List.nil_append]
    refine At.blkN ?_
    refine At.next ?_
    refine J.seq ?_
    refine J.region ?_
    refine JL.rd (Rd.move (t1 rfl rfl)) ?_
    refine JL.rd (Rd.move (t4 rfl rfl)) ?_
    refine JL.ef (Ef.call (.cons (t1 rfl rfl) (.cons (t0 rfl) .nil)) (read_nil i) (by repeat (first | exact Sel.nil | apply Sel.cons (by repeat (first | exact .here | apply Take.there)))) ?_)
    rintro - -
    simp only [List.cons_append, List.nil_append]
    refine JL.rd (Rd.move (t0 rfl)) ?_
    refine JL.rd (Rd.extract (t0 rfl) (by repeat (first | exact .zero | apply Nth.succ))) ?_
    refine JL.rd (Rd.extract (t1 rfl rfl) (by repeat (first | exact .zero | apply Nth.succ))) ?_
    refine JL.rd (Rd.assign (t1 rfl rfl)) ?_
    refine JL.rd (Rd.assign (t1 rfl rfl)) ?_
    refine JL.nil ?_
    refine At.next ?_
    refine J.seq ?_
    refine J.region ?_
    refine JL.rd (Rd.move (t1 rfl rfl)) ?_
    refine JL.rd (Rd.len Try.runUnderlying28 (t0 rfl)) ?_
    refine JL.rd (Rd.eql (t0 rfl) Ev.c) ?_
    refine JL.rd (Rd.move (t0 rfl)) ?_
    refine JL.rdG rfl (EvB (t0 rfl) rfl) rfl (Rd.move (t4 rfl rfl)) ?_
    refine JL.rdG rfl (EvB (t1 rfl rfl) rfl) rfl (Rd.eql (t0 rfl) Ev.c) ?_
    refine JL.rd (Rd.pickT (EvB (t2 rfl rfl) rfl) (t0 rfl)) ?_
    refine JL.rd (Rd.move (t0 rfl)) ?_
    refine JL.rdG rfl (EvB (t0 rfl) rfl) rfl (Rd.move (t17 rfl rfl)) ?_
    refine JL.rdG rfl (EvB (t1 rfl rfl) rfl) rfl (Rd.move (t20 rfl rfl)) ?_
    refine JL.rdG rfl (EvB (t2 rfl rfl) rfl) rfl (Rd.move (t23 rfl rfl)) ?_
    refine JL.efG rfl (EvB (t3 rfl rfl) rfl) rfl (Ef.call (.cons (t0 rfl) .nil) (fill_ok c) (by repeat (first | exact Sel.nil | apply Sel.cons (by repeat (first | exact .here | apply Take.there)))) ?_)
    rintro - -
    simp only [List.cons_append, List.nil_append]
    refine JL.efG rfl (EvB (t4 rfl rfl) rfl) rfl (Ef.ofStr Try.underlying9 Try.underlying28 Try.underlying5 (t0 rfl) (by first | (simp [maxLen]; done) | (simp [maxLen]; omega) | (simp only [maxLen]; omega)) ?_)
    intro b3 c4
    refine JL.efG rfl (EvB (t5 rfl rfl) rfl) rfl (Ef.call (.cons (t4 rfl rfl) (.cons (t3 rfl rfl) (.cons (t0 rfl) .nil))) (write_nil i _) (by repeat (first | exact Sel.nil | apply Sel.cons (by repeat (first | exact .here | apply Take.there)))) ?_)
    rintro - -
    simp only [List.cons_append, List.nil_append]
    refine JL.rdG rfl (EvB (t6 rfl rfl) rfl) rfl (Rd.eql (t0 rfl) Ev.c) ?_
    refine JL.rd (Rd.pickT (EvB (t7 rfl rfl) rfl) (t0 rfl)) ?_
    refine JL.rd (Rd.move (t0 rfl)) ?_
    refine JL.rdG rfl (EvB (t0 rfl) rfl) rfl (Rd.move (t26 rfl rfl)) ?_
    refine JL.efG rfl (EvB (t1 rfl rfl) rfl) rfl (Ef.call (.cons (t0 rfl) .nil) (flush_nil) (by repeat (first | exact Sel.nil | apply Sel.cons (by repeat (first | exact .here | apply Take.there)))) ?_)
    rintro - -
    simp only [List.cons_append, List.nil_append]
    refine JL.rdG rfl (EvB (t2 rfl rfl) rfl) rfl (Rd.eql (t0 rfl) Ev.c) ?_
    refine JL.rd (Rd.pickT (EvB (t3 rfl rfl) rfl) (t0 rfl)) ?_
    refine JL.rd (Rd.move (t0 rfl)) ?_
    refine JL.rdG rfl (EvB (t0 rfl) rfl) rfl (Rd.move (t31 rfl rfl)) ?_
    refine JL.efG rfl (EvB (t1 rfl rfl) rfl) rfl (Ef.call (.cons (t0 rfl) (.cons Ev.c .nil)) (restart_nild _) (by repeat (first | exact Sel.nil | apply Sel.cons (by repeat (first | exact .here | apply Take.there)))) ?_)
    rintro - -
    simp only [List.cons_append, List.nil_append]
    refine JL.rdG rfl (EvB (t2 rfl rfl) rfl) rfl (Rd.eql (t0 rfl) Ev.c) ?_
    refine JL.rd (Rd.pickT (EvB (t3 rfl rfl) rfl) (t0 rfl)) ?_
    refine JL.rd (Rd.move (t0 rfl)) ?_
    refine JL.rdG rfl (EvB (t0 rfl) rfl) rfl (Rd.move (t36 rfl rfl)) ?_
    refine JL.rdG rfl (EvB (t1 rfl rfl) rfl) rfl (Rd.move (t39 rfl rfl)) ?_
    refine JL.rdG rfl (EvB (t2 rfl rfl) rfl) rfl (Rd.move (t41 rfl rfl)) ?_
    refine JL.rdG rfl (EvB (t3 rfl rfl) rfl) rfl (Rd.move (t43 rfl rfl)) ?_
    refine JL.efG rfl (EvB (t4 rfl rfl) rfl) rfl (Ef.call (.cons (t3 rfl rfl) (.cons (t2 rfl rfl) (.cons (t1 rfl rfl) (.cons (t0 rfl) .nil)))) (damage_nil i j _) (by repeat (first | exact Sel.nil | apply Sel.cons (by repeat (first | exact .here | apply Take.there)))) ?_)
    rintro - -
    simp only [List.cons_append, List.nil_append]
    refine JL.live (K := [(57, _), (52, _), (7, _), (6, _)]) ⟨lk0, (lk5 rfl), (lk41 rfl), (lk42 rfl), trivial⟩ ?_
    intro ρ5
    refine JL.rdG rfl (EvB (t1 rfl rfl) rfl) rfl (Rd.eql (t0 rfl) Ev.c) ?_
    refine JL.rd (Rd.pickT (EvB (t2 rfl rfl) rfl) (t0 rfl)) ?_
    refine JL.rd (Rd.move (t0 rfl)) ?_
    refine JL.rdG rfl (EvB (t0 rfl) rfl) rfl (Rd.move (t5 rfl rfl)) ?_
    refine JL.efG rfl (EvB (t1 rfl rfl) rfl) rfl (Ef.call (.cons (t0 rfl) .nil) (blocks_nil) (by repeat (first | exact Sel.nil | apply Sel.cons (by repeat (first | exact .here | apply Take.there)))) ?_)
    rintro - -
    simp only [List.cons_append, List.nil_append]
    refine JL.rdG rfl (EvB (t2 rfl rfl) rfl) rfl (Rd.eql (t0 rfl) Ev.c) ?_
    refine JL.rd (Rd.pickT (EvB (t3 rfl rfl) rfl) (t0 rfl)) ?_
    refine JL.rd (Rd.move (t0 rfl)) ?_
    refine JL.rdG rfl (EvB (t0 rfl) rfl) rfl (Rd.move (t10 rfl rfl)) ?_
    refine JL.efG rfl (EvB (t1 rfl rfl) rfl) rfl (Ef.call (.cons (t0 rfl) .nil) (operations_nil) (by repeat (first | exact Sel.nil | apply Sel.cons (by repeat (first | exact .here | apply Take.there)))) ?_)
    rintro - -
    simp only [List.cons_append, List.nil_append]
    refine JL.rdG rfl (EvB (t2 rfl rfl) rfl) rfl (Rd.eql (t0 rfl) Ev.c) ?_
    refine JL.rd (Rd.pickT (EvB (t3 rfl rfl) rfl) (t0 rfl)) ?_
    refine JL.rd (Rd.move (t0 rfl)) ?_
    refine JL.rdG rfl (EvB (t0 rfl) rfl) rfl (Rd.move (t15 rfl rfl)) ?_
    refine JL.efG rfl (EvB (t1 rfl rfl) rfl) rfl (Ef.call (.cons (t0 rfl) .nil) (pending_nil) (by repeat (first | exact Sel.nil | apply Sel.cons (by repeat (first | exact .here | apply Take.there)))) ?_)
    rintro - -
    simp only [List.cons_append, List.nil_append]
    refine JL.rdG rfl (EvB (t2 rfl rfl) rfl) rfl (Rd.len Try.runUnderlying38 (t0 rfl)) ?_
    refine JL.rdG rfl (EvB (t3 rfl rfl) rfl) rfl (Rd.eql (t0 rfl) Ev.c) ?_
    refine JL.rd (Rd.pickT (EvB (t4 rfl rfl) rfl) (t0 rfl)) ?_
    refine JL.rd (Rd.move (t0 rfl)) ?_
    refine JL.rdG rfl (EvB (t0 rfl) rfl) rfl (Rd.move (t21 rfl rfl)) ?_
    refine JL.efG rfl (EvB (t1 rfl rfl) rfl) rfl (Ef.call (.cons (t0 rfl) .nil) (down_nil) (by repeat (first | exact Sel.nil | apply Sel.cons (by repeat (first | exact .here | apply Take.there)))) ?_)
    rintro - -
    simp only [List.cons_append, List.nil_append]
    refine JL.rdG rfl (EvB (t2 rfl rfl) rfl) rfl (Rd.not (EvB (t0 rfl) rfl)) ?_
    refine JL.rd (Rd.pickT (EvB (t3 rfl rfl) rfl) (t0 rfl)) ?_
    refine JL.rd (Rd.move (t0 rfl)) ?_
    refine JL.rdG rfl (EvB (t0 rfl) rfl) rfl (Rd.move (t26 rfl rfl)) ?_
    refine JL.efG rfl (EvB (t1 rfl rfl) rfl) rfl (Ef.call (.cons (t0 rfl) .nil) (clone_nil) (by repeat (first | exact Sel.nil | apply Sel.cons (by repeat (first | exact .here | apply Take.there)))) ?_)
    rintro - -
    simp only [List.cons_append, List.nil_append]
    refine JL.rdG rfl (EvB (t2 rfl rfl) rfl) rfl (Rd.eqlNil (t0 rfl) Try.runUnderlying23) ?_
    refine JL.rd (Rd.pickT (EvB (t3 rfl rfl) rfl) (t0 rfl)) ?_
    refine JL.rd (Rd.move (t0 rfl)) ?_
    refine JL.rdG rfl (EvB (t0 rfl) rfl) rfl (Rd.move (t31 rfl rfl)) ?_
    refine JL.efG rfl (EvB (t1 rfl rfl) rfl) rfl (Ef.call (.cons (t0 rfl) (.cons Ev.c .nil)) (equal_nil) (by repeat (first | exact Sel.nil | apply Sel.cons (by repeat (first | exact .here | apply Take.there)))) ?_)
    rintro - -
    simp only [List.cons_append, List.nil_append]
    refine JL.rd (Rd.pickT (EvB (t2 rfl rfl) rfl) (t0 rfl)) ?_
    refine JL.ef0 (Ef.st Try.sizeOf4 (t35 rfl rfl) (t0 rfl) rfl (by repeat (first | exact .here | apply Rep.there)) (by repeat (first | exact .own | exact .rd | apply Blk.there)) (by repeat (first | exact .zero | apply SetN.succ)) (by first | rfl | simp) ?_)
    refine JL.nil ?_
    refine At.next ?_
    refine J.ret ?_
    exact At.retM (()) (trivial) (by repeat (first | exact .here | apply Take.there)) (ResV.cell1 rfl Try.isAgg4 (t35 rfl rfl) (by repeat (first | exact .own | exact .rd | apply Blk.there))) rfl (fun _ => Stars.sel (by repeat (first | exact Sel.nil | apply Sel.cons (by repeat (first | exact .here | apply Take.there)))))
  · intro r0 k c hk
    exact absurd hk (Nat.not_lt_zero _)
end Go.Proofs.Ytfnoaohbjlnkgaa
