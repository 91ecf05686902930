/-
  Walks, printed by mk.py.
-/
import Derived.Test.YtfnoaohbjlnkgaaD0
import Derived.Test.YtfnoaohbjlnkgaaD2
import Derived.Test.YtfnoaohbjlnkgaaD5
import Derived.Test.YtfnoaohbjlnkgaaD7
import Derived.Test.YtfnoaohbjlnkgaaD8
namespace Go.Proofs.Ytfnoaohbjlnkgaa
attribute [local irreducible] J JL At Rd Ef DNew DCar DRun Then RetQ LoopQ



theorem new_ok (n : Int) (h1 : 1 ≤ n) (h2 : n ≤ 8192) : Fn Try.prog 13 [.int .i64 n] [] (X := Nat) (fun _ => True) (fun d => .tuple #[.pointer (some ⟨d, 0, none⟩), .int .i64 0]) (fun d => [dk d (newD n.toNat)]) :=
  (new_any n).cv (fun _ s => s) (fun d _ => if_pos ⟨h1, h2⟩) fun d h _ s => by rw [if_pos ⟨h1, h2⟩] at s; exact s
theorem write_ok (d : Nat) (D : Dk) (i : Nat) (a : Option Addr) (n cap : Nat) (s : List UInt8) (hn : s.length = n) (h5 : n = 512) (hr : reachC D i = 0) (hop : operC D = 0) (ho : D.ops < 1099511627776) (hp : D.pend.length < 1048576) :
    Fn Try.prog 14 [.pointer (some ⟨d, 0, none⟩), .int .i64 (i : Int), .slice a n cap] [dk d D, bytesA a cap s] (X := Unit) (fun _ => True) (fun _ => .int .i64 0) (fun _ => [dk d (D.operated.wrote i s), bytesA a cap s]) := by
  subst hn
  refine (write_any d D i a cap s ho hp).cv (fun _ s => s) (fun _ _ => ?_) fun _ h _ st => ?_
  · simp [writeC, hr, h5, hop]
  · have e : writeD D i s = D.operated.wrote i s := by simp [writeD, hr, h5, hop]
    rw [e] at st
    exact st
theorem flush_ok (d : Nat) (D : Dk) (hd : D.down = false) (hop : operC D = 0) (ho : D.ops < 1099511627776) :
    Fn Try.prog 16 [.pointer (some ⟨d, 0, none⟩)] [dk d D] (X := Unit) (fun _ => True) (fun _ => .int .i64 0) (fun _ => [dk d D.operated.flushed]) := by
  refine (flush_any d D ho).cv (fun _ s => s) (fun _ _ => ?_) fun _ h _ st => ?_
  · simp [flushC, hd, hop]
  · have e : flushD D = D.operated.flushed := by simp [flushD, hd, hop]
    rw [e] at st
    exact st
theorem read_ok (d : Nat) (D : Dk) (i : Nat) (hr : reachC D i = 0) :
    Fn Try.prog 19 [.pointer (some ⟨d, 0, none⟩), .int .i64 (i : Int)] [dk d D] (X := Option Addr × Nat) (fun _ => True) (fun x => .tuple #[.slice x.1 (D.vis i).length x.2, .int .i64 0]) (fun x => [dk d D, bytesA x.1 x.2 (D.vis i)]) := by
  have e : readB D i = D.vis i := by simp [readB, hr]
  refine (read_any d D i).cv (fun _ s => s) (fun x _ => ?_) fun x h _ st => ?_
  · rw [hr, e]
  · rw [e] at st
    exact st
theorem restart_ok (d : Nat) (D : Dk) (a : Option Addr) (n cap : Nat) (cs : List UInt8) (hn : cs.length = n) (hd : D.down = true) :
    Fn Try.prog 18 [.pointer (some ⟨d, 0, none⟩), .slice a n cap] [dk d D, bytesA a cap cs] (X := Unit) (fun _ => True) (fun _ => .int .i64 0) (fun _ => [dk d (D.restarted cs), bytesA a cap cs]) := by
  refine (restart_any d D a n cap cs hn (bytesA a cap cs) (fun t => SIn.bytes t)).cv (fun _ s => s) (fun _ _ => ?_) fun _ h _ st => ?_
  · simp [backC, hd]
  · have e : backD D cs = D.restarted cs := by simp [backD, hd]
    rw [e] at st
    exact st
theorem restart_nil (d : Nat) (D : Dk) (hd : D.down = true) :
    Fn Try.prog 18 [.pointer (some ⟨d, 0, none⟩), .slice none 0 0] [dk d D] (X := Unit) (fun _ => True) (fun _ => .int .i64 0) (fun _ => [dk d (D.restarted [])]) :=
  (restart_ok d D none 0 0 [] rfl hd).cv (fun _ s => Stars.swap (bytes_nil s)) (fun _ _ => rfl) fun _ h _ st => Stars.sel (.cons .here .nil) st
def Dk.failed (D : Dk) : Dk := { D with down := true }
def full (c : UInt8) : List UInt8 := List.replicate 512 c
@[simp] theorem full_length (c : UInt8) : (full c).length = 512 := List.length_replicate
theorem fill_ok (c : UInt8) : Fn Try.prog 15 [.int .u8 (c.toNat : Int)] [] (X := Unit) (fun _ => True) (fun _ => str (full c)) (fun _ => []) := fill_any c
theorem vis_wrote (D : Dk) (i : Nat) (s : List UInt8) : (D.wrote i s).vis i = s := by
  show visL i (D.dur i) (D.pend ++ [(i, s)]) = s
  rw [visL_append]
  exact if_pos rfl
theorem vis_restarted (D : Dk) (cs : List UInt8) (i : Nat) : (D.restarted cs).vis i = D.back cs D.pend.length i := rfl

def kd : Dk := ((newD 4).operated.wrote 2 (full 7))
theorem write_kd (d : Nat) (a : Option Addr) (n cap : Nat) (hn : (full 7).length = n) (h5 : n = 512) :
    Fn Try.prog 14 [.pointer (some ⟨d, 0, none⟩), .int .i64 2, .slice a n cap] [dk d (newD 4), bytesA a cap (full 7)] (X := Unit) (fun _ => True) (fun _ => .int .i64 0) (fun _ => [dk d kd, bytesA a cap (full 7)]) :=
  write_ok d (newD 4) 2 a n cap (full 7) hn h5 rfl rfl (by decide) (by decide)
theorem kd_a : (kd.failed.restarted []).vis 2 = zb := rfl
theorem kd_b : (kd.failed.restarted [5]).vis 2 = (full 7).take 32 ++ zb.drop 32 := rfl
theorem kd_c : kd.vis 2 = full 7 := rfl

set_option maxRecDepth 100000 in
set_option maxHeartbeats 400000 in
theorem known_any  :
    Fn Try.prog 12 [] [] (X := Unit) (fun _ => True) (fun _ => .bool true) (fun _ => []) := by
  refine Fn.mk' (n := 85) (l := []) (fn := Try.f12) Try.func12 (by kernel_rfl) rfl rfl (by simp) rfl ?_
  intro h0 w0
  refine J.seq ?_
  refine J.region ?_
  refine JL.rd (Rd.assign Ev.c) ?_
  refine JL.nil ?_
  refine At.next ?_
  refine J.seq ?_
  refine J.region ?_
  refine JL.ef (Ef.call (.cons Ev.c .nil) (new_ok 4 (by decide) (by decide)) (by repeat (first | exact Sel.nil | apply Sel.cons (by repeat (first | exact .here | apply Take.there)))) ?_)
  rintro d -
  simp only [List.cons_append, List.nil_append]
  refine JL.rd (Rd.move (t0 rfl)) ?_
  refine JL.rd (Rd.extract (t0 rfl) (by repeat (first | exact .zero | apply Nth.succ))) ?_
  refine JL.rd (Rd.extract (t1 rfl rfl) (by repeat (first | exact .zero | apply Nth.succ))) ?_
  refine JL.rd (Rd.assign (t1 rfl rfl)) ?_
  refine JL.rd (Rd.assign (t1 rfl rfl)) ?_
  refine JL.nil ?_
  refine At.next ?_
  refine J.seq ?_
  refine J.seq ?_
  refine J.region ?_
  refine JL.rd (Rd.move (t0 rfl)) ?_
  refine JL.rd (Rd.neq (t0 rfl) Ev.c) ?_
  refine JL.rd (Rd.move (t0 rfl)) ?_
  refine JL.rdG rfl (EvB (t0 rfl) rfl) rfl (Rd.move (t4 rfl rfl)) ?_
  refine JL.rdG rfl (EvB (t1 rfl rfl) rfl) rfl (Rd.eqlNil (t0 rfl) Try.runUnderlying23) ?_
  refine JL.rd (Rd.pickF (EvB (t2 rfl rfl) rfl) (t0 rfl)) ?_
  refine JL.rd (Rd.move (t0 rfl)) ?_
  refine JL.rdG rfl (EvB (t0 rfl) rfl) rfl (Rd.move (t8 rfl rfl)) ?_
  refine JL.efG rfl (EvB (t1 rfl rfl) rfl) rfl (Ef.call (.cons Ev.c .nil) (fill_ok 7) (by repeat (first | exact Sel.nil | apply Sel.cons (by repeat (first | exact .here | apply Take.there)))) ?_)
  rintro - -
  simp only [List.cons_append, List.nil_append]
  refine JL.efG rfl (EvB (t2 rfl rfl) rfl) rfl (Ef.ofStr Try.underlying9 Try.underlying28 Try.underlying5 (t0 rfl) (by first | (simp [maxLen]; done) | (simp [maxLen]; omega) | (simp only [maxLen]; omega)) ?_)
  intro b1 c2
  refine JL.efG rfl (EvB (t3 rfl rfl) rfl) rfl (Ef.call (.cons (t2 rfl rfl) (.cons Ev.c (.cons (t0 rfl) .nil))) (write_kd d _ _ _ (by simp) (by simp)) (by repeat (first | exact Sel.nil | apply Sel.cons (by repeat (first | exact .here | apply Take.there)))) ?_)
  rintro - -
  simp only [List.cons_append, List.nil_append]
  refine JL.rdG rfl (EvB (t4 rfl rfl) rfl) rfl (Rd.neq (t0 rfl) Ev.c) ?_
  refine JL.rd (Rd.pickF (EvB (t5 rfl rfl) rfl) (t0 rfl)) ?_
  refine JL.nil ?_
  refine At.next ?_
  refine J.condF (EvB (t0 rfl) rfl) ?_
  refine J.skip ?_
  refine At.next ?_
  refine J.seq ?_
  refine J.region ?_
  refine JL.rd (Rd.move (t14 rfl rfl)) ?_
  refine JL.ef (Ef.call (.cons (t0 rfl) (.cons Ev.c .nil)) (read_ok d kd 2 rfl) (by repeat (first | exact Sel.nil | apply Sel.cons (by repeat (first | exact .here | apply Take.there)))) ?_)
  rintro ⟨ra, rc⟩ -
  simp only [List.cons_append, List.nil_append]
  refine JL.rd (Rd.move (t0 rfl)) ?_
  refine JL.rd (Rd.extract (t0 rfl) (by repeat (first | exact .zero | apply Nth.succ))) ?_
  refine JL.rd (Rd.extract (t1 rfl rfl) (by repeat (first | exact .zero | apply Nth.succ))) ?_
  refine JL.rd (Rd.assign (t1 rfl rfl)) ?_
  refine JL.rd (Rd.assign (t1 rfl rfl)) ?_
  refine JL.nil ?_
  refine At.next ?_
  refine J.seq ?_
  refine J.region ?_
  refine JL.rd (Rd.move (t21 rfl rfl)) ?_
  refine JL.ef (Ef.call (.cons (t0 rfl) .nil) (clone_any d kd) (by repeat (first | exact Sel.nil | apply Sel.cons (by repeat (first | exact .here | apply Take.there)))) ?_)
  rintro e -
  simp only [List.cons_append, List.nil_append]
  refine JL.rd (Rd.assign (t0 rfl)) ?_
  refine JL.nil ?_
  refine At.next ?_
  refine J.seq ?_
  refine J.seq ?_
  refine J.live (K := [(5, _), (3, _), (1, _), (0, _)]) ⟨lk0, (lk4 rfl), (lk24 rfl), (lk29 rfl), trivial⟩ ?_
  intro ρ3
  refine J.region ?_
  refine JL.rd (Rd.move (t0 rfl)) ?_
  refine JL.rd (Rd.eqlNil (t0 rfl) Try.runUnderlying23) ?_
  refine JL.nil ?_
  refine At.next ?_
  refine J.condF (EvB (t0 rfl) rfl) ?_
  refine J.skip ?_
  refine At.next ?_
  refine J.seq ?_
  refine J.region ?_
  refine JL.rd (Rd.move (t4 rfl rfl)) ?_
  refine JL.ef (Ef.call (.cons (t0 rfl) .nil) (fail_any d kd) (by repeat (first | exact Sel.nil | apply Sel.cons (by repeat (first | exact .here | apply Take.there)))) ?_)
  rintro - -
  simp only [List.cons_append, List.nil_append]
  refine JL.nil ?_
  refine At.next ?_
  refine J.seq ?_
  refine J.region ?_
  refine JL.rd (Rd.move (t4 rfl rfl)) ?_
  refine JL.ef (Ef.call (.cons (t0 rfl) .nil) (fail_any e kd) (by repeat (first | exact Sel.nil | apply Sel.cons (by repeat (first | exact .here | apply Take.there)))) ?_)
  rintro - -
  simp only [List.cons_append, List.nil_append]
  refine JL.nil ?_
  refine At.next ?_
  refine J.seq ?_
  refine J.region ?_
  refine JL.rd (Rd.move (t8 rfl rfl)) ?_
  refine JL.ef (Ef.call (.cons (t0 rfl) (.cons Ev.c .nil)) (restart_nil d kd.failed rfl) (by repeat (first | exact Sel.nil | apply Sel.cons (by repeat (first | exact .here | apply Take.there)))) ?_)
  rintro - -
  simp only [List.cons_append, List.nil_append]
  refine JL.rd (Rd.move (t8 rfl rfl)) ?_
  refine JL.ef (Ef.byLit1 (c := 5) elt_28 Ev.c ?_)
  intro b5
  refine JL.ef (Ef.call (.cons (t1 rfl rfl) (.cons (t0 rfl) .nil)) (restart_ok e kd.failed _ _ _ [5] rfl rfl) (by repeat (first | exact Sel.nil | apply Sel.cons (by repeat (first | exact .here | apply Take.there)))) ?_)
  rintro - -
  simp only [List.cons_append, List.nil_append]
  refine JL.rd (Rd.assign (t3 rfl rfl)) ?_
  refine JL.rd (Rd.assign (t1 rfl rfl)) ?_
  refine JL.nil ?_
  refine At.next ?_
  refine J.seq ?_
  refine J.region ?_
  refine JL.rd (Rd.move (t15 rfl rfl)) ?_
  refine JL.ef (Ef.call (.cons (t0 rfl) (.cons Ev.c .nil)) (read_ok d (kd.failed.restarted []) 2 rfl) (by repeat (first | exact Sel.nil | apply Sel.cons (by repeat (first | exact .here | apply Take.there)))) ?_)
  rintro ⟨ra1, rc1⟩ -
  simp only [List.cons_append, List.nil_append]
  refine JL.rd (Rd.move (t0 rfl)) ?_
  refine JL.rd (Rd.extract (t0 rfl) (by repeat (first | exact .zero | apply Nth.succ))) ?_
  refine JL.rd (Rd.extract (t1 rfl rfl) (by repeat (first | exact .zero | apply Nth.succ))) ?_
  refine JL.rd (Rd.assign (t1 rfl rfl)) ?_
  refine JL.rd (Rd.assign (t1 rfl rfl)) ?_
  refine JL.nil ?_
  refine At.next ?_
  refine J.seq ?_
  refine J.region ?_
  refine JL.rd (Rd.move (t20 rfl rfl)) ?_
  refine JL.ef (Ef.call (.cons (t0 rfl) (.cons Ev.c .nil)) (read_ok e (kd.failed.restarted [5]) 2 rfl) (by repeat (first | exact Sel.nil | apply Sel.cons (by repeat (first | exact .here | apply Take.there)))) ?_)
  rintro ⟨ra2, rc2⟩ -
  simp only [List.cons_append, List.nil_append]
  refine JL.rd (Rd.move (t0 rfl)) ?_
  refine JL.rd (Rd.extract (t0 rfl) (by repeat (first | exact .zero | apply Nth.succ))) ?_
  refine JL.rd (Rd.extract (t1 rfl rfl) (by repeat (first | exact .zero | apply Nth.succ))) ?_
  refine JL.rd (Rd.assign (t1 rfl rfl)) ?_
  refine JL.rd (Rd.assign (t1 rfl rfl)) ?_
  refine JL.nil ?_
  refine At.next ?_
  refine J.seq ?_
  refine J.live (K := [(10, _), (8, _), (7, _), (6, _), (3, _), (0, _)]) ⟨(lk1 rfl), (lk8 rfl), (lk14 rfl), (lk15 rfl), (lk28 rfl), (lk30 rfl), trivial⟩ ?_
  intro ρ6
  refine J.draw [⟨false, 0, 1⟩, ⟨false, 0, 1⟩, ⟨true, 0, 0⟩, ⟨false, 1, 1⟩, ⟨false, 1, 1⟩, ⟨false, 1, 1⟩, ⟨false, 1, 1⟩, ⟨false, 1, 1⟩, ⟨false, 1, 1⟩, ⟨false, 1, 1⟩, ⟨false, 1, 1⟩, ⟨false, 1, 1⟩, ⟨false, 1, 1⟩, ⟨false, 1, 2⟩, ⟨false, 1, 2⟩, ⟨true, 1, 1⟩, ⟨false, 2, 2⟩, ⟨false, 2, 2⟩, ⟨false, 2, 2⟩, ⟨false, 2, 4⟩, ⟨false, 2, 4⟩, ⟨true, 2, 2⟩, ⟨false, 3, 4⟩, ⟨true, 3, 3⟩, ⟨false, 4, 4⟩, ⟨false, 4, 4⟩, ⟨false, 4, 4⟩, ⟨false, 4, 4⟩, ⟨false, 4, 4⟩] [2, 15, 21, 23] mixed rfl ?_
  refine DRun.at [] [0, 1] rfl rfl ?_ ?_
  · exact .nil
  refine DNew.rd rfl (Rd.move (t4 rfl rfl)) ?_
  refine DNew.rd rfl (Rd.byStr Try.underlying28 Try.underlying5 Try.underlying9 (t0 rfl) (by first | (apply SIn.bytes; (repeat (first | exact .here | apply Take.there)); done) | (apply SIn.rowR; (repeat (first | exact .here | apply Take.there)); done) | (apply hA; (repeat (first | exact .here | apply Take.there)); done)) (by first | (simp; done) | (simp; omega) | omega | (simp [*]; done))) ?_
  refine DNew.nil ?_
  refine DRun.ef rfl (Ef.call (.cons Ev.c .nil) (fill_ok 7) (by repeat (first | exact Sel.nil | apply Sel.cons (by repeat (first | exact .here | apply Take.there)))) ?_)
  rintro - -
  simp only [List.cons_append, List.nil_append]
  refine DRun.at [0, 1] [3, 4, 5, 6, 7, 8, 9, 10, 11, 12, 13, 14] rfl rfl ?_ ?_
  · refine DCar.rd rfl (lk2 rfl) (Rd.move (t7 rfl rfl)) ?_
    refine DCar.rd rfl (lk1 rfl) (Rd.byStr Try.underlying28 Try.underlying5 Try.underlying9 (t2 rfl rfl) (by first | (apply SIn.bytes; (repeat (first | exact .here | apply Take.there)); done) | (apply SIn.rowR; (repeat (first | exact .here | apply Take.there)); done) | (apply hA; (repeat (first | exact .here | apply Take.there)); done)) (by first | (simp; done) | (simp; omega) | omega | (simp [*]; done))) ?_
    exact .nil
  refine DNew.rd rfl (Rd.str_eql (t1 rfl rfl) (t0 rfl)) ?_
  refine DNew.rd rfl (Rd.move (t0 rfl)) ?_
  refine DNew.rdG rfl rfl (EvB (t0 rfl) (decide_eq_true kd_c)) rfl (Rd.move (t8 rfl rfl)) ?_
  refine DNew.rdG rfl rfl (EvB (t1 rfl rfl) (decide_eq_true kd_c)) rfl (Rd.eql (t0 rfl) Ev.c) ?_
  refine DNew.rd rfl (Rd.pickT (EvB (t2 rfl rfl) (decide_eq_true kd_c)) (t0 rfl)) ?_
  refine DNew.rd rfl (Rd.move (t0 rfl)) ?_
  refine DNew.rdG rfl rfl (EvB (t0 rfl) rfl) rfl (Rd.move (t11 rfl rfl)) ?_
  refine DNew.rdG rfl rfl (EvB (t1 rfl rfl) rfl) rfl (Rd.eql (t0 rfl) Ev.c) ?_
  refine DNew.rd rfl (Rd.pickT (EvB (t2 rfl rfl) rfl) (t0 rfl)) ?_
  refine DNew.rd rfl (Rd.move (t0 rfl)) ?_
  refine DNew.rdG rfl rfl (EvB (t0 rfl) rfl) rfl (Rd.move (t14 rfl rfl)) ?_
  refine DNew.rdG rfl rfl (EvB (t1 rfl rfl) rfl) rfl (Rd.byStr Try.underlying28 Try.underlying5 Try.underlying9 (t0 rfl) (by first | (apply SIn.bytes; (repeat (first | exact .here | apply Take.there)); done) | (apply SIn.rowR; (repeat (first | exact .here | apply Take.there)); done) | (apply hA; (repeat (first | exact .here | apply Take.there)); done)) (by first | (simp; done) | (simp; omega) | omega | (simp [*]; done))) ?_
  refine DNew.nil ?_
  refine DRun.efG rfl rfl (EvB (t2 rfl rfl) rfl) rfl (Ef.call .nil (zero_any) (by repeat (first | exact Sel.nil | apply Sel.cons (by repeat (first | exact .here | apply Take.there)))) ?_)
  rintro - -
  simp only [List.cons_append, List.nil_append]
  refine DRun.at [13, 14] [16, 17, 18, 19, 20] rfl rfl ?_ ?_
  · refine DCar.rdG rfl rfl (EvB (t3 rfl rfl) rfl) rfl (lk2 rfl) (Rd.move (t17 rfl rfl)) ?_
    refine DCar.rdG rfl rfl (EvB (t3 rfl rfl) rfl) rfl (lk1 rfl) (Rd.byStr Try.underlying28 Try.underlying5 Try.underlying9 (t2 rfl rfl) (by first | (apply SIn.bytes; (repeat (first | exact .here | apply Take.there)); done) | (apply SIn.rowR; (repeat (first | exact .here | apply Take.there)); done) | (apply hA; (repeat (first | exact .here | apply Take.there)); done)) (by first | (simp; done) | (simp; omega) | omega | (simp [*]; done))) ?_
    exact .nil
  refine DNew.rdG rfl rfl (EvB (t3 rfl rfl) rfl) rfl (Rd.str_eql (t1 rfl rfl) (t0 rfl)) ?_
  refine DNew.rd rfl (Rd.pickT (EvB (t4 rfl rfl) rfl) (t0 rfl)) ?_
  refine DNew.rd rfl (Rd.move (t0 rfl)) ?_
  refine DNew.rdG rfl rfl (EvB (t0 rfl) (decide_eq_true kd_a)) rfl (Rd.move (t19 rfl rfl)) ?_
  refine DNew.rdG rfl rfl (EvB (t1 rfl rfl) (decide_eq_true kd_a)) rfl (Rd.byStr Try.underlying28 Try.underlying5 Try.underlying9 (t0 rfl) (by first | (apply SIn.bytes; (repeat (first | exact .here | apply Take.there)); done) | (apply SIn.rowR; (repeat (first | exact .here | apply Take.there)); done) | (apply hA; (repeat (first | exact .here | apply Take.there)); done)) (by first | (simp; done) | (simp; omega) | omega | (simp [*]; done))) ?_
  refine DNew.nil ?_
  refine DRun.efG rfl rfl (EvB (t2 rfl rfl) (decide_eq_true kd_a)) rfl (Ef.call (.cons Ev.c .nil) (fill_ok 7) (by repeat (first | exact Sel.nil | apply Sel.cons (by repeat (first | exact .here | apply Take.there)))) ?_)
  rintro - -
  simp only [List.cons_append, List.nil_append]
  refine DRun.at [19, 20] [22] rfl rfl ?_ ?_
  · refine DCar.rdG rfl rfl (EvB (t3 rfl rfl) (decide_eq_true kd_a)) rfl (lk2 rfl) (Rd.move (t22 rfl rfl)) ?_
    refine DCar.rdG rfl rfl (EvB (t3 rfl rfl) (decide_eq_true kd_a)) rfl (lk1 rfl) (Rd.byStr Try.underlying28 Try.underlying5 Try.underlying9 (t2 rfl rfl) (by first | (apply SIn.bytes; (repeat (first | exact .here | apply Take.there)); done) | (apply SIn.rowR; (repeat (first | exact .here | apply Take.there)); done) | (apply hA; (repeat (first | exact .here | apply Take.there)); done)) (by first | (simp; done) | (simp; omega) | omega | (simp [*]; done))) ?_
    exact .nil
  refine DNew.rdG rfl rfl (EvB (t3 rfl rfl) (decide_eq_true kd_a)) rfl (Rd.strTo Try.runUnderlying9 (t0 rfl) Ev.c (by first | (simp; done) | (simp; omega) | omega | (simp [*]; done)) (by first | (simp; done) | (simp; omega) | omega | (simp [*]; done))) ?_
  refine DNew.nil ?_
  refine DRun.efG rfl rfl (EvB (t4 rfl rfl) (decide_eq_true kd_a)) rfl (Ef.call .nil (zero_any) (by repeat (first | exact Sel.nil | apply Sel.cons (by repeat (first | exact .here | apply Take.there)))) ?_)
  rintro - -
  simp only [List.cons_append, List.nil_append]
  refine DRun.end [19, 20, 22] [24, 25, 26, 27, 28] rfl rfl ?_ ?_
  · refine DCar.rdG rfl rfl (EvB (t5 rfl rfl) (decide_eq_true kd_a)) rfl (lk4 rfl) (Rd.move (t24 rfl rfl)) ?_
    refine DCar.rdG rfl rfl (EvB (t5 rfl rfl) (decide_eq_true kd_a)) rfl (lk3 rfl) (Rd.byStr Try.underlying28 Try.underlying5 Try.underlying9 (t4 rfl rfl) (by first | (apply SIn.bytes; (repeat (first | exact .here | apply Take.there)); done) | (apply SIn.rowR; (repeat (first | exact .here | apply Take.there)); done) | (apply hA; (repeat (first | exact .here | apply Take.there)); done)) (by first | (simp; done) | (simp; omega) | omega | (simp [*]; done))) ?_
    refine DCar.rdG rfl rfl (EvB (t5 rfl rfl) (decide_eq_true kd_a)) rfl (lk1 rfl) (Rd.strTo Try.runUnderlying9 (t2 rfl rfl) Ev.c (by first | (simp; done) | (simp; omega) | omega | (simp [*]; done)) (by first | (simp; done) | (simp; omega) | omega | (simp [*]; done))) ?_
    exact .nil
  refine DNew.rdG rfl rfl (EvB (t5 rfl rfl) (decide_eq_true kd_a)) rfl (Rd.strFrom Try.runUnderlying9 (t0 rfl) Ev.c (by first | (simp; done) | (simp; omega) | omega | (simp [*]; done)) (by first | (simp; done) | (simp; omega) | omega | (simp [*]; done))) ?_
  refine DNew.rdG rfl rfl (EvB (t6 rfl rfl) (decide_eq_true kd_a)) rfl (Rd.str_add (t2 rfl rfl) (t0 rfl) (by first | (simp; done) | (simp; omega) | omega | (simp [*]; done))) ?_
  refine DNew.rdG rfl rfl (EvB (t7 rfl rfl) (decide_eq_true kd_a)) rfl (Rd.str_eql (t5 rfl rfl) (t0 rfl)) ?_
  refine DNew.rd rfl (Rd.pickT (EvB (t8 rfl rfl) (decide_eq_true kd_a)) (t0 rfl)) ?_
  refine DNew.rd rfl (Rd.assign (t0 rfl)) ?_
  refine DNew.nil ?_
  refine At.next ?_
  refine J.ret ?_
  exact At.ret (()) (trivial) (ResV.one rfl (t0 rfl)) (congrArg Value.bool (decide_eq_true kd_b)) (fun _ => Stars.sel (by repeat (first | exact Sel.nil | apply Sel.cons (by repeat (first | exact .here | apply Take.there)))))
end Go.Proofs.Ytfnoaohbjlnkgaa
