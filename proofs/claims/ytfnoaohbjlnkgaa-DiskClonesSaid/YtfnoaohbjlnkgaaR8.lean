/-
  Walks, printed by mk.py.
-/
import Derived.Test.YtfnoaohbjlnkgaaR7
namespace Go.Proofs.Ytfnoaohbjlnkgaa
attribute [local irreducible] J JL At Rd Ef DNew DCar DRun Then RetQ LoopQ


theorem Blk.take {b : Nat} {ob : Obj} {hs hs1 : List Assn} (t : Take (pts b ob) hs hs1) : Blk b ob hs := by
  induction t with
  | here => exact .own
  | there _ ih => exact .there ih

set_option maxRecDepth 100000 in
set_option maxHeartbeats 400000 in
theorem bclone_any (ad : Addr) (n cap : Nat) (l : List UInt8) (hn : l.length = n) (hl : n ≤ 1048576) (A : Assn) (hA : ∀ {hs hs1 : List Assn}, Take A hs hs1 → SIn hs (some ad) 1 (b1s l)) :
    Fn Try.prog 42 [.slice (some ad) n cap] [A] (X := Option Addr × Nat) (fun _ => True) (fun x => .slice x.1 n x.2) (fun x => [bytesA x.1 x.2 l, A]) := by
  refine Fn.mk' (n := 8) (l := [(0, .slice (some ad) n cap)]) (fn := Try.f42) Try.func42 (by kernel_rfl) rfl rfl (by simp) rfl ?_
  intro h0 w0
  refine J.seq ?_
  refine J.region ?_
  refine JL.rd (Rd.assign Ev.c) ?_
  refine JL.nil ?_
  refine At.next ?_
  refine J.seq ?_
  refine J.seq ?_
  refine J.region ?_
  refine JL.rd (Rd.move (t1 rfl rfl)) ?_
  refine JL.rd (Rd.slNil (t0 rfl) Try.runUnderlying28) ?_
  refine JL.nil ?_
  refine At.next ?_
  refine J.condF (EvB (t0 rfl) rfl) ?_
  refine J.skip ?_
  refine At.next ?_
  refine J.seq ?_
  refine J.region ?_
  refine JL.ef (Ef.slit0 elt_28 ?_)
  intro b1
  refine JL.rd (Rd.move (t4 rfl rfl)) ?_
  refine JL.ef (Ef.appS elt_28 (t1 rfl rfl) (t0 rfl) (by repeat (first | exact .here | apply Take.there)) (by first | (apply SIn.row; (repeat (first | exact .here | apply Take.there)); done) | (apply SIn.rowR; (repeat (first | exact .here | apply Take.there)); done) | (apply SIn.bytes; (repeat (first | exact .here | apply Take.there)); done) | (apply hA; (repeat (first | exact .here | apply Take.there)); done)) (by first | (simp; done) | (simp; omega) | omega | (simp [*]; done)) (by first | (simp; done) | (simp; omega) | omega | (simp [*]; done)) (by rw [b1s_flatten]; exact bv_one _) (by first | omega | (simp; omega)) (by first | (simp only [maxLen]; omega) | (simp [maxLen]; omega)) ?_)
  intro a2 c3
  refine JL.rd (Rd.assign (t0 rfl)) ?_
  refine JL.nil ?_
  refine At.next ?_
  refine J.ret ?_
  exact At.ret ((a2, c3)) (trivial) (ResV.one rfl (t0 rfl)) (by simp) (fun _ s => by have s1 := Stars.sel (pre := [row a2 c3 5 1 ([] ++ b1s l), A]) (by repeat (first | exact Sel.nil | apply Sel.cons (by repeat (first | exact .here | apply Take.there)))) s; exact bytes_shut (e := 5) s1)

set_option maxRecDepth 100000 in
set_option maxHeartbeats 400000 in
theorem pending_any (d : Nat) (D : Dk) :
    Fn Try.prog 21 [.pointer (some ⟨d, 0, none⟩)] [dk d D] (X := Option Addr × Nat × List (Option Addr × Nat)) (fun x => x.2.2.length = D.pend.length) (fun x => .slice x.1 D.pend.length x.2.1) (fun x => [dk d D, row x.1 x.2.1 74 2 (wl D.pend x.2.2), bytesL D.pend x.2.2]) := by
  refine Fn.mk' (n := 29) (l := [(0, .pointer (some ⟨d, 0, none⟩))]) (fn := Try.f21) Try.func21 (by kernel_rfl) rfl rfl (by simp) rfl ?_
  intro h0 w0
  refine J.openT .here dk_open ?_
  rintro ⟨m, mp, a0, cap0⟩ ⟨hwf, hdur⟩
  simp only [dparts, List.cons_append, List.nil_append]
  have hlen := hwf.plen
  refine J.seq ?_
  refine J.region ?_
  refine JL.rd (Rd.assign Ev.c) ?_
  refine JL.nil ?_
  refine At.next ?_
  refine J.seq ?_
  refine J.region ?_
  refine JL.rd (Rd.assign Ev.c) ?_
  refine JL.nil ?_
  refine At.next ?_
  refine J.seq ?_
  refine J.seq ?_
  refine J.region ?_
  refine JL.rd (Rd.move (t2 rfl rfl)) ?_
  refine JL.rd (Rd.eqlNil (t0 rfl) Try.runUnderlying23) ?_
  refine JL.nil ?_
  refine At.next ?_
  refine J.condF (EvB (t0 rfl) rfl) ?_
  refine J.skip ?_
  refine At.next ?_
  refine J.seq ?_
  refine J.seq ?_
  refine J.nilRow 74 2 (J.newBytesL ?_)
  refine J.region ?_
  refine JL.rd (Rd.move (t4 rfl rfl)) ?_
  refine JL.rd (Rd.nil (t0 rfl)) ?_
  refine JL.rd ((by first | exact Rd.fld0 fld_81_2 (t0 rfl) | exact Rd.fld fld_81_2 (t0 rfl))) ?_
  refine JL.rd (Rd.ldN Try.isAgg79 (t0 rfl) (by repeat (first | exact .own | exact .rd | apply Blk.there)) (by repeat (first | exact .zero | apply Nth.succ))) ?_
  refine JL.rd (Rd.len Try.runUnderlying79 (t0 rfl)) ?_
  refine JL.rd (Rd.move Ev.c) ?_
  refine JL.nil ?_
  refine At.next ?_
  refine J.block ?_
  refine J.loop (X := Nat × Option Addr × Nat × List (Option Addr × Nat)) (fun (x : Nat × Option Addr × Nat × List (Option Addr × Nat)) => [(14, .int .i64 (x.1 : Int)), (3, .slice x.2.1 x.1 x.2.2.1)]) (K := [(13, _), (12, _), (2, _)]) (fun x => [pts d (.cells [.int .i64 D.n, .map (some m), .slice a0 D.pend.length cap0, .int .i64 D.ops, .int .i64 D.lim, .bool D.down].toArray 81), imap m mp, row a0 cap0 86 513 (D.pend.map pcell), row x.2.1 x.2.2.1 74 2 (wl (D.pend.take x.1) x.2.2.2), bytesL (D.pend.take x.1) x.2.2.2]) (fun x => x.1 ≤ D.pend.length ∧ x.2.2.2.length = x.1) (fun x => D.pend.length - x.1) ((0, none, 0, [])) ?_ ⟨lk0.trans (by first | with_reducible rfl | (congr 1; omega) | (simp; done) | (simp [*]; done)), (lk8 rfl).trans (by first | with_reducible rfl | (congr 1; omega) | (simp; done) | (simp [*]; done)), trivial⟩ ⟨(lk1 rfl), (lk2 rfl), (lk9 rfl), trivial⟩ (fun _ => Stars.sel (by repeat (first | exact Sel.nil | apply Sel.cons (by repeat (first | exact .here | apply Take.there))))) ?_
  · exact ⟨Nat.zero_le _, rfl⟩
  rintro ⟨k, ra, rc, xs⟩ ρ ⟨hk, hxs⟩
  simp only [List.cons_append, List.nil_append]
  dsimp only at hk hxs ⊢
  have hxl : (D.pend.take k).length = xs.length := by rw [List.length_take, hxs]; omega
  have hwl : (wl (D.pend.take k) xs).length = k := by rw [wl_length hxl, hxl, hxs]
  refine J.seq ?_
  refine J.region ?_
  refine JL.rd (Rd.lss (t0 rfl) (t2 rfl rfl)) ?_
  refine JL.nil ?_
  refine At.next ?_
  refine J.seq ?_
  refine J.condD (t0 rfl) ?_ ?_
  · intro hc1
    obtain ⟨p, hp⟩ : ∃ p, D.pend[k]? = some p := ⟨_, List.getElem?_eq_getElem (by omega)⟩
    have hx : (D.pend.map pcell)[(k : Int).toNat]? = some (.int .i64 (p.1 : Int) :: bv p.2) := by simp [hp, pcell]
    have hpl := hwf.pend p (List.mem_of_getElem? hp)
    have hpl2 := hpl.2
    have htk : D.pend.take (k + 1) = D.pend.take k ++ [p] := by rw [List.take_succ_eq_append_getElem (by omega)]; congr 2; exact (List.getElem?_eq_some_iff.1 hp).2
    refine J.skip ?_
    refine At.next ?_
    refine J.seq ?_
    refine J.block ?_
    refine J.seq ?_
    refine J.region ?_
    refine JL.rd (Rd.sIdx Try.runUnderlying79 Try.sizeOf86 (t4 rfl rfl) (t1 rfl rfl) (SIn.row (by repeat (first | exact .here | apply Take.there))) (by simp) (by omega) (by omega)) ?_
    refine JL.rd (Rd.sLdA Try.isAgg86 Try.sizeOf86 (t0 rfl) (SIn.row (by repeat (first | exact .here | apply Take.there))) hx) ?_
    refine JL.ef (Ef.alloc zeroP rfl ?_)
    intro b2
    refine JL.ef0 (Ef.stB Try.sizeOf86 (t0 rfl) (t1 rfl rfl) (by repeat (first | exact .here | apply Rep.there)) (by repeat (first | exact .own | exact .rd | apply Blk.there)) (by first | rfl | assumption | simp_all) (by first | rfl | assumption | simp_all) (by first | exact bv_one _ | exact cons_one rfl (bv_one _) | (simp [Value.oneCell']; done) | (simp [Value.oneCell', str]; done)) (by decide) ?_)
    refine JL.nil ?_
    refine At.next ?_
    refine J.draw [⟨false, 0, 2⟩, ⟨false, 0, 1⟩, ⟨false, 0, 1⟩, ⟨false, 0, 0⟩, ⟨false, 0, 0⟩, ⟨true, 0, 0⟩, ⟨false, 1, 1⟩, ⟨true, 1, 1⟩, ⟨true, 2, 2⟩, ⟨true, 3, 3⟩] [5, 7, 8, 9] mixed rfl ?_
    refine DRun.at [] [0, 1, 2, 3, 4] rfl rfl ?_ ?_
    · exact .nil
    refine DNew.rd rfl (Rd.move (t5 rfl rfl)) ?_
    refine DNew.rd rfl ((by first | exact Rd.fld0 fld_86_0 (t1 rfl rfl) | exact Rd.fldz fld_86_0 (t1 rfl rfl))) ?_
    refine DNew.rd rfl (Rd.ldN Try.isAgg3 (t0 rfl) (by repeat (first | exact .own | exact .rd | apply Blk.there)) (by repeat (first | exact .zero | apply Nth.succ))) ?_
    refine DNew.rd rfl ((by first | exact Rd.fld0 fld_86_1 (t3 rfl rfl) | exact Rd.fld fld_86_1 (t3 rfl rfl))) ?_
    refine DNew.rd rfl (Rd.sliceAll Try.runUnderlying84 Try.sizeOf5 (t0 rfl) (by decide)) ?_
    refine DNew.nil ?_
    refine DRun.ef rfl (Ef.call (.cons (t0 rfl) .nil) (bclone_any ⟨b2, 1, none⟩ 512 512 p.2 hpl2 (by decide) (pts b2 (.cells (Value.int .i64 (p.1 : Int) :: bv p.2).toArray 86)) (fun t => SIn.blk (Blk.take t) (b1s_flat _) (by rw [b1s_flatten, b1s_length, Nat.mul_one]; show List.take _ (bv p.2) = bv p.2; rw [← bv_length, List.take_length]))) (by repeat (first | exact Sel.nil | apply Sel.cons (by repeat (first | exact .here | apply Take.there)))) ?_)
    rintro ⟨ya, yc⟩ -
    simp only [List.cons_append, List.nil_append]
    refine DRun.at [0, 1, 2] [6] rfl rfl ?_ ?_
    · refine DCar.rd rfl (lk5 rfl) (Rd.move (t11 rfl rfl)) ?_
      refine DCar.rd rfl (lk4 rfl) ((by first | exact Rd.fld0 fld_86_0 (t6 rfl rfl) | exact Rd.fldz fld_86_0 (t6 rfl rfl))) ?_
      refine DCar.rd rfl (lk3 rfl) (Rd.ldN Try.isAgg3 (t4 rfl rfl) (by repeat (first | exact .own | exact .rd | apply Blk.there)) (by repeat (first | exact .zero | apply Nth.succ))) ?_
      exact .nil
    refine DNew.rd rfl (Rd.buildS (.cons (t3 rfl rfl) (.cons (t0 rfl) .nil)) bld_74 (by repeat (first | exact FillN.nil | apply FillN.one rfl rfl (by repeat (first | exact SetN.zero | apply SetN.succ))))) ?_
    refine DNew.nil ?_
    refine DRun.ef rfl (Ef.slit1 elt_38 (t0 rfl) rfl rfl (by decide) ?_)
    intro b3
    refine DRun.at [0] [] rfl rfl ?_ ?_
    · refine DCar.rd rfl (lk7 rfl) (Rd.move (t13 rfl rfl)) ?_
      exact .nil
    refine DNew.nil ?_
    refine DRun.ef rfl (Ef.appS elt_38 (t7 rfl rfl) (t0 rfl) (by repeat (first | exact .here | apply Take.there)) (by first | (apply SIn.row; (repeat (first | exact .here | apply Take.there)); done) | (apply SIn.rowR; (repeat (first | exact .here | apply Take.there)); done) | (apply SIn.bytes; (repeat (first | exact .here | apply Take.there)); done) | (apply hA; (repeat (first | exact .here | apply Take.there)); done)) (by first | (simp; done) | (simp; omega) | omega | (simp [*]; done)) (by first | (simp; done) | (simp; omega) | omega | (simp [*]; done)) (by simp [Value.oneCell']) (by first | omega | (simp; omega)) (by first | (simp only [maxLen]; omega) | (simp [maxLen]; omega)) ?_)
    intro a4 c5
    refine DRun.at [] [] rfl rfl ?_ ?_
    · exact .nil
    refine DNew.nil ?_
    refine DRun.ef rfl (Rd.ef (Rd.assign (t0 rfl)) ?_)
    refine DRun.end [] [] rfl rfl ?_ ?_
    · exact .nil
    refine DNew.nil ?_
    refine At.blkN ?_
    refine At.next ?_
    refine J.region ?_
    refine JL.rd (Rd.add (t14 rfl rfl) Ev.c (w64 (by omega) (by omega))) ?_
    refine JL.rd (Rd.move (t0 rfl)) ?_
    refine JL.nil ?_
    refine At.bytesSnoc (p := p) hxl (by repeat (first | exact .here | apply Take.there)) (by repeat (first | exact .here | apply Take.there)) ?_
    have hws := wl_snoc (p := p) (x := (ya, yc)) hxl
    rw [hpl2] at hws
    rw [hws, ← htk]
    refine At.again ((k + 1, a4, c5, xs ++ [(ya, yc)])) ?_ ?_ ⟨lk0.trans (by first | with_reducible rfl | (congr 1; omega) | (simp; done) | (simp [*]; done)), (lk2 rfl).trans (by first | with_reducible rfl | (congr 1; omega) | (simp; done) | (simp [*]; done)), trivial⟩ ⟨(lk18 rfl), (lk19 rfl), (lk20 rfl), trivial⟩ (fun _ => Stars.sel (by repeat (first | exact Sel.nil | apply Sel.cons (by repeat (first | exact .here | apply Take.there)))))
    · exact ⟨by show k + 1 ≤ D.pend.length; omega, by show (xs ++ [(ya, yc)]).length = k + 1; simp [hxs]⟩
    · show D.pend.length - (k + 1) < D.pend.length - k; omega
  · intro hc1
    obtain rfl : k = D.pend.length := by omega
    rw [List.take_length]
    refine J.exit ?_
    refine At.nextX ?_
    refine At.loopX ?_
    refine At.blkX ?_
    refine At.next ?_
    refine J.seq ?_
    refine J.region ?_
    refine JL.rd (Rd.move (t2 rfl rfl)) ?_
    refine JL.rd (Rd.assign (t0 rfl)) ?_
    refine JL.nil ?_
    refine At.next ?_
    refine J.ret ?_
    exact At.ret ((ra, rc, xs)) (hxs) (ResV.one rfl (t0 rfl)) rfl (fun _ s => dk_shut hwf hdur (Stars.sel (by repeat (first | exact Sel.nil | apply Sel.cons (by repeat (first | exact .here | apply Take.there)))) s))
end Go.Proofs.Ytfnoaohbjlnkgaa
