/-
  Walks, printed by mk.py.
-/
import Derived.Test.YtfnoaohbjlnkgaaD0
namespace Go.Proofs.Ytfnoaohbjlnkgaa
attribute [local irreducible] J JL At Rd Ef DNew DCar DRun Then RetQ LoopQ


theorem eltP : Elt Try.prog 79 86 513 520 (.int .i64 0 :: bv zb) := Elt.mk' Try.underlying79 (i := Try.t86) (v := .agg (.int .i64 0 :: bv zb).toArray) (by kernel_rfl) (by rw [bv_zb]; kernel_rfl) (by kernel_rfl) (by kernel_rfl) rfl (by simp) (by decide)

set_option maxRecDepth 100000 in
set_option maxHeartbeats 400000 in
theorem mapsclone_any (m : Nat) (mp : List (Int × Value)) :
    Fn Try.prog 51 [.map (some m)] [imap m mp] (X := Nat) (fun _ => True) (fun b => .map (some b)) (fun b => [imap b mp, imap m mp]) := by
  refine Fn.mk' (n := 9) (l := [(0, .map (some m))]) (fn := Try.f51) Try.func51 (by kernel_rfl) rfl rfl (by simp) rfl ?_
  intro h0 w0
  refine J.seq ?_
  refine J.region ?_
  refine JL.rd (Rd.assign Ev.c) ?_
  refine JL.nil ?_
  refine At.next ?_
  refine J.seq ?_
  refine J.seq ?_
  refine J.region ?_
  refine JL.rd (Rd.move (t1 rfl rfl)) ?_
  refine JL.rd (Rd.mapNil (t0 rfl) Try.runUnderlying78) ?_
  refine JL.nil ?_
  refine At.next ?_
  refine J.condF (EvB (t0 rfl) rfl) ?_
  refine J.skip ?_
  refine At.next ?_
  refine J.seq ?_
  refine J.region ?_
  refine JL.rd (Rd.move (t3 rfl rfl)) ?_
  refine JL.rd (Rd.iface (t0 rfl) Try.runUnderlying78 (fun _ h => by cases h)) ?_
  refine JL.ef (Ef.mapClone (fn := Try.f61) Try.func61 (by kernel_rfl) rfl (by kernel_rfl) (by kernel_rfl) (t0 rfl) (by repeat (first | exact .here | apply Take.there)) ?_)
  intro bm
  refine JL.rd (Rd.asMap (t0 rfl) Try.runUnderlying78) ?_
  refine JL.rd (Rd.assign (t0 rfl)) ?_
  refine JL.nil ?_
  refine At.next ?_
  refine J.ret ?_
  exact At.ret (bm) (trivial) (ResV.one rfl (t0 rfl)) rfl (fun _ => Stars.sel (by repeat (first | exact Sel.nil | apply Sel.cons (by repeat (first | exact .here | apply Take.there)))))

set_option maxRecDepth 100000 in
set_option maxHeartbeats 400000 in
theorem slclone_any (a : Option Addr) (n cap : Nat) (xs : List (List Value)) (hn : xs.length = n) (hm : n ≤ 1048576) (ho : ∀ u ∈ xs.flatten, u.oneCell' = true) :
    Fn Try.prog 52 [.slice a n cap] [row a cap 86 513 xs] (X := Option Addr × Nat) (fun _ => True) (fun x => .slice x.1 n x.2) (fun x => [row x.1 x.2 86 513 xs, row a cap 86 513 xs]) := by
  refine Fn.mk' (n := 8) (l := [(0, .slice a n cap)]) (fn := Try.f52) Try.func52 (by kernel_rfl) rfl rfl (by simp) rfl ?_
  intro h0 w0
  refine J.seq ?_
  refine J.region ?_
  refine JL.rd (Rd.assign Ev.c) ?_
  refine JL.nil ?_
  refine At.next ?_
  refine J.seq ?_
  refine J.seq ?_
  refine J.region ?_
  refine JL.rd (Rd.move (t1 rfl rfl)) ?_
  refine JL.rd (Rd.slNil (t0 rfl) Try.runUnderlying79) ?_
  refine JL.nil ?_
  refine At.next ?_
  refine J.cond (t0 rfl) ?_ ?_
  · intro hc1
    refine J.know (fun h s => row_isNil hc1 s) ?_
    rintro ⟨rfl, rfl, rfl⟩
    simp only [List.length_nil] at hn
    subst hn
    refine J.seq ?_
    refine J.region ?_
    refine JL.rd (Rd.assign Ev.c) ?_
    refine JL.nil ?_
    refine At.next ?_
    refine J.ret ?_
    refine At.nextR ?_
    exact At.ret ((none, 0)) (trivial) (ResV.one rfl (t0 rfl)) rfl (fun _ s => row_nil _ _ s)
  · intro hc1
    refine J.openRow (by repeat (first | exact .here | apply Take.there)) (fun e => by rw [e] at hc1; cases hc1) ?_
    intro rb rcs rlo rhi hf he r1 r2 r3 r4 r5
    subst he
    refine J.skip ?_
    refine At.next ?_
    refine J.seq ?_
    refine J.region ?_
    refine JL.ef (Ef.slit0 eltP ?_)
    intro bs
    refine JL.rd (Rd.move (t4 rfl rfl)) ?_
    refine JL.ef (Ef.app eltP xs (t1 rfl rfl) (t0 rfl) (by repeat (first | exact .here | apply Take.there)) (by repeat (first | exact .own | exact .rd | apply Blk.there)) hf hn (by rw [List.drop_zero, ← hn]; exact r5) ho (by simp; omega) (by simp [maxLen]; omega) ?_)
    intro a2 cap2
    refine JL.rd (Rd.assign (t0 rfl)) ?_
    refine JL.nil ?_
    refine At.next ?_
    refine J.ret ?_
    exact At.ret ((a2, cap2)) (trivial) (ResV.one rfl (t0 rfl)) (by simp [hn]) (fun _ s => by have s1 := Stars.sel (pre := [pts rb (.cells rcs.toArray 86 (rlo, rhi)), row a2 cap2 86 513 ([] ++ xs)]) (by repeat (first | exact Sel.nil | apply Sel.cons (by repeat (first | exact .here | apply Take.there)))) s; exact Stars.swap (row_mk hf r1 r2 r3 r4 r5 s1))
end Go.Proofs.Ytfnoaohbjlnkgaa
