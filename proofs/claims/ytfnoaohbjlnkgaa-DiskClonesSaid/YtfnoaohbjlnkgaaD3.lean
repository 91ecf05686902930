/-
  Walks, printed by mk.py.
-/
import Derived.Test.YtfnoaohbjlnkgaaD0
namespace Go.Proofs.Ytfnoaohbjlnkgaa
attribute [local irreducible] J JL At Rd Ef DNew DCar DRun Then RetQ LoopQ


set_option maxRecDepth 100000 in
set_option maxHeartbeats 400000 in
theorem keep_any (v0 v2 v3 v4 v5 : Value) (d m : Nat) (mp : List (Int × Value)) (i : Int) (s : List UInt8) (hs : s.length = 512) :
    Fn Try.prog 39 [.pointer (some ⟨d, 0, none⟩), .int .i64 i, .agg (bv s).toArray] [pts d (.cells [v0, .map (some m), v2, v3, v4, v5].toArray 81), imap m mp] (X := Unit) (fun _ => True) (fun _ => .tuple #[]) (fun _ => [pts d (.cells [v0, .map (some m), v2, v3, v4, v5].toArray 81), imap m (if s = zb then mdel mp i else mput mp i (.agg (bv s).toArray))]) := by
  refine Fn.mk' (n := 20) (l := [(0, .pointer (some ⟨d, 0, none⟩)), (1, .int .i64 i), (2, .agg (bv s).toArray)]) (fn := Try.f39) Try.func39 (by kernel_rfl) rfl rfl (by simp) rfl ?_
  intro h0 w0
  refine J.seq ?_
  refine J.region ?_
  refine JL.ef (Ef.box (t2 rfl rfl) rfl ?_)
  intro b1
  refine JL.nil ?_
  refine At.next ?_
  refine J.seq ?_
  refine J.seq ?_
  refine J.region ?_
  refine JL.rd (Rd.ldB Try.isAgg84 Try.sizeOf84 (t0 rfl) (by repeat (first | exact .own | exact .rd | apply Blk.there)) (by first | rfl | assumption | simp_all)) ?_
  refine JL.rd (Rd.build (vs := []) (fun _ => by simp) build0) ?_
  refine JL.rd (Rd.eqlA (t1 rfl rfl) (t0 rfl) eqg0 Try.runUnderlying84 Try.runUnderlying5 Try.isAgg5 Try.sizeOf5 (by simp [hs]) (by simp)) ?_
  refine JL.nil ?_
  refine At.next ?_
  refine J.condD (t0 rfl) ?_ ?_
  · intro hc2
    refine J.seq ?_
    refine J.region ?_
    refine JL.rd (Rd.move (t4 rfl rfl)) ?_
    refine JL.rd (Rd.nil (t0 rfl)) ?_
    refine JL.rd ((by first | exact Rd.fld0 fld_81_1 (t0 rfl) | exact Rd.fld fld_81_1 (t0 rfl))) ?_
    refine JL.rd (Rd.ldN Try.isAgg78 (t0 rfl) (by repeat (first | exact .own | exact .rd | apply Blk.there)) (by repeat (first | exact .zero | apply Nth.succ))) ?_
    refine JL.rd (Rd.move (t9 rfl rfl)) ?_
    refine JL.ef0 (Ef.mapDelete (ats := [78, 3]) Try.runUnderlying78 Try.runUnderlying3 rfl (t1 rfl rfl) (t0 rfl) (by repeat (first | exact .here | apply Take.there)) ?_)
    refine JL.nil ?_
    refine At.next ?_
    refine J.ret ?_
    refine At.nextR ?_
    exact At.ret (()) (trivial) (ResV.nores rfl) rfl (fun _ s => by simp only [*, if_true, if_false]; exact Stars.sel (by repeat (first | exact Sel.nil | apply Sel.cons (by repeat (first | exact .here | apply Take.there)))) s)
  · intro hc2
    refine J.skip ?_
    refine At.next ?_
    refine J.draw [⟨false, 0, 0⟩, ⟨false, 0, 0⟩, ⟨false, 0, 0⟩, ⟨false, 0, 0⟩, ⟨false, 0, 0⟩, ⟨false, 0, 0⟩, ⟨true, 0, 0⟩] [6] mixed rfl ?_
    refine DRun.at [] [0, 1, 2, 3, 4, 5] rfl rfl ?_ ?_
    · exact .nil
    refine DNew.rd rfl (Rd.move (t4 rfl rfl)) ?_
    refine DNew.rd rfl (Rd.nil (t0 rfl)) ?_
    refine DNew.rd rfl ((by first | exact Rd.fld0 fld_81_1 (t0 rfl) | exact Rd.fld fld_81_1 (t0 rfl))) ?_
    refine DNew.rd rfl (Rd.ldN Try.isAgg78 (t0 rfl) (by repeat (first | exact .own | exact .rd | apply Blk.there)) (by repeat (first | exact .zero | apply Nth.succ))) ?_
    refine DNew.rd rfl (Rd.move (t9 rfl rfl)) ?_
    refine DNew.rd rfl (Rd.ldB Try.isAgg84 Try.sizeOf84 (t8 rfl rfl) (by repeat (first | exact .own | exact .rd | apply Blk.there)) (by first | rfl | assumption | simp_all)) ?_
    refine DNew.nil ?_
    refine DRun.ef0 rfl (Ef.mapUpdate Try.runUnderlying78 Try.runUnderlying3 (t2 rfl rfl) (t1 rfl rfl) (t0 rfl) (by repeat (first | exact .here | apply Take.there)) ?_)
    refine DRun.end [] [] rfl rfl ?_ ?_
    · exact .nil
    refine DNew.nil ?_
    exact At.retN (()) (trivial) (ResV.nores rfl) rfl (fun _ s => by simp only [*, if_true, if_false]; exact Stars.sel (by repeat (first | exact Sel.nil | apply Sel.cons (by repeat (first | exact .here | apply Take.there)))) s)

/-- What Backward hands out. -/
def backs (xs : List (List Value)) : List (List Value) := (List.range xs.length).reverse.map fun (i : Nat) => [.int .i64 (i : Int), .agg (xs.getD i []).toArray]
theorem backs_length (xs : List (List Value)) : (backs xs).length = xs.length := by simp [backs]
theorem backs_get {xs : List (List Value)} {k : Nat} {x : List Value} (h : (backs xs)[k]? = some x) : k < xs.length ∧ ∃ u, xs[xs.length - 1 - k]? = some u ∧ x = [.int .i64 ((xs.length : Int) - 1 - k), .agg u.toArray] := by
  have hk : k < xs.length := by have := (List.getElem?_eq_some_iff.1 h).1; rwa [backs_length] at this
  refine ⟨hk, xs[xs.length - 1 - k]'(by omega), by simp, ?_⟩
  simp [backs, hk] at h
  rw [← h]
  have h1 : ((xs.length - 1 - k : Nat) : Int) = (xs.length : Int) - 1 - k := by omega
  have h2 : xs.length - 1 - k < xs.length := by omega
  rw [h1, List.getElem?_eq_getElem h2]
  rfl
theorem backs_put {xs : List (List Value)} {k : Nat} (h : (k : Int) < xs.length) : ∃ u, xs[((xs.length : Int) - 1 - k).toNat]? = some u ∧ (backs xs)[k]? = some [.int .i64 ((xs.length : Int) - 1 - k), .agg u.toArray] := by
  obtain ⟨x, hx⟩ : ∃ x, (backs xs)[k]? = some x := ⟨_, List.getElem?_eq_getElem (by rw [backs_length]; omega)⟩
  obtain ⟨_, u, hu, rfl⟩ := backs_get hx
  refine ⟨u, ?_, hx⟩
  rw [show ((xs.length : Int) - 1 - k).toNat = xs.length - 1 - k by omega]
  exact hu

set_option maxRecDepth 100000 in
set_option maxHeartbeats 400000 in
theorem backward_any (a : Option Addr) (n cap : Nat) :
    Fn Try.prog 58 [.slice a n cap] [] (X := Nat) (fun _ => True) (fun b => .func (.func 62) #[] #[.pointer (some ⟨b, 0, none⟩)]) (fun b => [pts b (.cells [.slice a n cap].toArray 79)]) := by
  refine Fn.mk' (n := 4) (l := [(0, .slice a n cap)]) (fn := Try.f58) Try.func58 (by kernel_rfl) rfl rfl (by simp) rfl ?_
  intro h0 w0
  refine J.seq ?_
  refine J.region ?_
  refine JL.ef (Ef.box (t0 rfl) rfl ?_)
  intro b1
  refine JL.rd (Rd.assign Ev.c) ?_
  refine JL.nil ?_
  refine At.next ?_
  refine J.seq ?_
  refine J.region ?_
  refine JL.rd (Rd.mkfunc .nil (.cons (t1 rfl rfl) .nil)) ?_
  refine JL.rd (Rd.assign (t0 rfl)) ?_
  refine JL.nil ?_
  refine At.next ?_
  refine J.ret ?_
  exact At.ret (b1) (trivial) (ResV.one rfl (t0 rfl)) rfl (fun _ => Stars.sel (by repeat (first | exact Sel.nil | apply Sel.cons (by repeat (first | exact .here | apply Take.there)))))

set_option maxRecDepth 100000 in
set_option maxHeartbeats 400000 in
theorem backward1_any (l : Nat) (G Gx : Nat → Assn) (b cap : Nat) (a : Option Addr) (xs : List (List Value)) (hm : xs.length ≤ 9223372036854775807) (hy : ∀ k x, (backs xs)[k]? = some x → Yields Try.prog l x [G k] [G (k + 1)] [Gx k]) :
    Fn Try.prog 62 [.func (.yield l) #[] #[], .pointer (some ⟨b, 0, none⟩)] [pts b (.cells [.slice a xs.length cap].toArray 79), row a cap 86 513 xs, G 0] (X := Option Nat) (fun z => ∀ k, z = some k → k < xs.length) (fun _ => .tuple #[]) (fun z => [pts b (.cells [.slice a xs.length cap].toArray 79), row a cap 86 513 xs] ++ [match z with | none => G xs.length | some k => Gx k]) := by
  refine Fn.mk' (n := 19) (l := [(0, .func (.yield l) #[] #[]), (1, .pointer (some ⟨b, 0, none⟩))]) (fn := Try.f62) Try.func62 (by kernel_rfl) rfl rfl (by simp) rfl ?_
  intro h0 w0
  refine J.seq ?_
  refine J.region ?_
  refine JL.rd (Rd.ldN Try.isAgg79 (t1 rfl rfl) (by repeat (first | exact .own | exact .rd | apply Blk.there)) (by repeat (first | exact .zero | apply Nth.succ))) ?_
  refine JL.rd (Rd.len Try.runUnderlying79 (t0 rfl)) ?_
  refine JL.rd (Rd.sub (t0 rfl) Ev.c (w64 (by omega) (by omega))) ?_
  refine JL.rd (Rd.assign (t0 rfl)) ?_
  refine JL.nil ?_
  refine At.next ?_
  refine J.block ?_
  refine J.loop (X := Nat) (fun (x : Nat) => [(3, .int .i64 ((xs.length : Int) - 1 - x))]) (K := [(0, _), (1, _)]) (fun x => [pts b (.cells [.slice a xs.length cap].toArray 79), row a cap 86 513 xs, G x]) (fun x => x ≤ xs.length) (fun x => xs.length - x) (0) ?_ ⟨lk0.trans (by first | with_reducible rfl | (congr 1; omega) | (simp; done) | (simp [*]; done)), trivial⟩ ⟨(lk4 rfl), (lk5 rfl), trivial⟩ (fun _ => Stars.sel (by repeat (first | exact Sel.nil | apply Sel.cons (by repeat (first | exact .here | apply Take.there))))) ?_
  · exact Nat.zero_le _
  intro x ρ hp
  simp only [List.cons_append, List.nil_append]
  refine J.seq ?_
  refine J.seq ?_
  refine J.region ?_
  refine JL.rd (Rd.move (t0 rfl)) ?_
  refine JL.rd (Rd.geq (t0 rfl) Ev.c) ?_
  refine JL.nil ?_
  refine At.next ?_
  refine J.condD (t0 rfl) ?_ ?_
  · intro hc1
    obtain ⟨u, hu, hb⟩ := backs_put (xs := xs) (k := x) (by omega)
    refine J.skip ?_
    refine At.next ?_
    refine J.seq ?_
    refine J.block ?_
    refine J.seq ?_
    refine J.region ?_
    refine JL.rd (Rd.move (t3 rfl rfl)) ?_
    refine JL.rd (Rd.move (t3 rfl rfl)) ?_
    refine JL.rd (Rd.ldN Try.isAgg79 (t6 rfl rfl) (by repeat (first | exact .own | exact .rd | apply Blk.there)) (by repeat (first | exact .zero | apply Nth.succ))) ?_
    refine JL.rd (Rd.move (t5 rfl rfl)) ?_
    refine JL.rd (Rd.sIdx Try.runUnderlying79 Try.sizeOf86 (t1 rfl rfl) (t0 rfl) (SIn.row (by repeat (first | exact .here | apply Take.there))) (by simp) (by omega) (by omega)) ?_
    refine JL.rd (Rd.sLdA Try.isAgg86 Try.sizeOf86 (t0 rfl) (SIn.row (by repeat (first | exact .here | apply Take.there))) hu) ?_
    refine JL.ef (Ef.yield (t5 rfl rfl) (.cons (t4 rfl rfl) (.cons (t0 rfl) .nil)) (hy _ _ hb) (by repeat (first | exact Sel.nil | apply Sel.cons (by repeat (first | exact .here | apply Take.there)))) ?_ ?_)
    · simp only [List.cons_append, List.nil_append]
      refine JL.rd (Rd.not (EvB (t0 rfl) rfl)) ?_
      refine JL.nil ?_
      refine At.next ?_
      refine J.condF (EvB (t0 rfl) rfl) ?_
      refine J.skip ?_
      refine At.blkN ?_
      refine At.next ?_
      refine J.region ?_
      refine JL.rd (Rd.move (t10 rfl rfl)) ?_
      refine JL.rd (Rd.sub (t0 rfl) Ev.c (w64 (by omega) (by omega))) ?_
      refine JL.rd (Rd.assign (t0 rfl)) ?_
      refine JL.nil ?_
      refine At.again (x + 1) ?_ ?_ ⟨lk0.trans (by first | with_reducible rfl | (congr 1; omega) | (simp; done) | (simp [*]; done)), trivial⟩ ⟨(lk14 rfl), (lk15 rfl), trivial⟩ (fun _ => Stars.sel (by repeat (first | exact Sel.nil | apply Sel.cons (by repeat (first | exact .here | apply Take.there)))))
      · omega
      · omega
    · simp only [List.cons_append, List.nil_append]
      refine JL.rd (Rd.not (EvB (t0 rfl) rfl)) ?_
      refine JL.nil ?_
      refine At.next ?_
      refine J.condT (EvB (t0 rfl) rfl) ?_
      refine J.ret ?_
      refine At.blkR ?_
      refine At.nextR ?_
      refine At.loopR ?_
      refine At.blkR ?_
      exact At.ret (some x) (by intro k hk; cases hk; omega) (ResV.nores rfl) rfl (fun _ => Stars.sel (by repeat (first | exact Sel.nil | apply Sel.cons (by repeat (first | exact .here | apply Take.there)))))
  · intro hc1
    obtain rfl : x = xs.length := by omega
    refine J.exit ?_
    refine At.nextX ?_
    refine At.loopX ?_
    refine At.blkX ?_
    exact At.retN (none) (by intro k hk; cases hk) (ResV.nores rfl) rfl (fun _ => Stars.sel (by repeat (first | exact Sel.nil | apply Sel.cons (by repeat (first | exact .here | apply Take.there)))))

theorem backward_iter (b cap : Nat) (a : Option Addr) (xs : List (List Value)) (n : Nat) (hn : xs.length = n) (hm : n ≤ 9223372036854775807) :
    Iter Try.prog 62 [.pointer (some ⟨b, 0, none⟩)] [pts b (.cells [.slice a n cap].toArray 79), row a cap 86 513 xs] (backs xs) [pts b (.cells [.slice a n cap].toArray 79), row a cap 86 513 xs] := by
  subst hn
  exact Iter.of (backs_length xs) fun l J Jx hy => backward1_any l J Jx b cap a xs hm hy
theorem backward1_ent : Ent Try.prog 62 := ⟨Try.f62, by kernel_rfl, rfl, rfl⟩
theorem backs_two {xs : List (List Value)} {x : List Value} (h : x ∈ backs xs) : x.length = 2 := by
  unfold backs at h
  obtain ⟨i, _, rfl⟩ := List.mem_map.1 h
  rfl
end Go.Proofs.Ytfnoaohbjlnkgaa
