/-
  Walks, printed by mk.py.
-/
import Derived.Test.YtfnoaohbjlnkgaaD0
import Derived.Test.YtfnoaohbjlnkgaaD1
import Derived.Test.YtfnoaohbjlnkgaaD3
import Derived.Test.YtfnoaohbjlnkgaaD7
namespace Go.Proofs.Ytfnoaohbjlnkgaa
attribute [local irreducible] J JL At Rd Ef DNew DCar DRun Then RetQ LoopQ


set_option maxRecDepth 100000 in
set_option maxHeartbeats 400000 in
theorem write_any (d : Nat) (D : Dk) (i : Int) (a : Option Addr) (cap : Nat) (s : List UInt8) (ho : D.ops < 1099511627776) (hp : D.pend.length < 1048576) :
    Fn Try.prog 14 [.pointer (some ⟨d, 0, none⟩), .int .i64 i, .slice a s.length cap] [dk d D, bytesA a cap s] (X := Unit) (fun _ => True) (fun _ => .int .i64 (writeC D i s.length)) (fun _ => [dk d (writeD D i s), bytesA a cap s]) := by
  refine Fn.mk' (n := 37) (l := [(0, .pointer (some ⟨d, 0, none⟩)), (1, .int .i64 i), (2, .slice a s.length cap)]) (fn := Try.f14) Try.func14 (by kernel_rfl) rfl rfl (by simp) rfl ?_
  intro h0 w0
  refine J.seq ?_
  refine J.region ?_
  refine JL.rd (Rd.assign Ev.c) ?_
  refine JL.nil ?_
  refine At.next ?_
  refine J.seq ?_
  refine J.seq ?_
  refine J.region ?_
  refine JL.rd (Rd.move (t1 rfl rfl)) ?_
  refine JL.rd (Rd.move (t3 rfl rfl)) ?_
  refine JL.ef (Ef.call (.cons (t1 rfl rfl) (.cons (t0 rfl) .nil)) (reach_any d D i) (by repeat (first | exact Sel.nil | apply Sel.cons (by repeat (first | exact .here | apply Take.there)))) ?_)
  rintro - -
  simp only [List.cons_append, List.nil_append]
  refine JL.rd (Rd.assign (t0 rfl)) ?_
  refine JL.nil ?_
  refine At.next ?_
  refine J.seq ?_
  refine J.region ?_
  refine JL.rd (Rd.move (t0 rfl)) ?_
  refine JL.rd (Rd.neq (t0 rfl) Ev.c) ?_
  refine JL.nil ?_
  refine At.next ?_
  refine J.condD (t0 rfl) ?_ ?_
  · intro hc1
    refine J.seq ?_
    refine J.region ?_
    refine JL.rd (Rd.move (t2 rfl rfl)) ?_
    refine JL.rd (Rd.assign (t0 rfl)) ?_
    refine JL.nil ?_
    refine At.next ?_
    refine J.ret ?_
    refine At.nextR ?_
    exact At.ret (()) (trivial) (ResV.one rfl (t0 rfl)) (by simp [writeC, *]) (fun _ st => by have e : writeD D i s = D := (by simp [writeD, *]); rw [e]; exact Stars.sel (by repeat (first | exact Sel.nil | apply Sel.cons (by repeat (first | exact .here | apply Take.there)))) st)
  · intro hc1
    have hr : reachC D i = 0 := by simpa using hc1
    obtain ⟨hdn, hi0, hin⟩ := reach_zero hr
    refine J.skip ?_
    refine At.next ?_
    refine J.seq ?_
    refine J.seq ?_
    refine J.region ?_
    refine JL.rd (Rd.move (t9 rfl rfl)) ?_
    refine JL.rd (Rd.len Try.runUnderlying28 (t0 rfl)) ?_
    refine JL.rd (Rd.neq (t0 rfl) Ev.c) ?_
    refine JL.nil ?_
    refine At.next ?_
    refine J.condD (t0 rfl) ?_ ?_
    · intro hc2
      have hs : s.length ≠ 512 := by omega
      refine J.seq ?_
      refine J.region ?_
      refine JL.rd (Rd.assign Ev.c) ?_
      refine JL.nil ?_
      refine At.next ?_
      refine J.ret ?_
      refine At.nextR ?_
      exact At.ret (()) (trivial) (ResV.one rfl (t0 rfl)) (by simp [writeC, *]) (fun _ st => by have e : writeD D i s = D := (by simp [writeD, *]); rw [e]; exact Stars.sel (by repeat (first | exact Sel.nil | apply Sel.cons (by repeat (first | exact .here | apply Take.there)))) st)
    · intro hc2
      have hs : s.length = 512 := by omega
      refine J.skip ?_
      refine At.next ?_
      refine J.seq ?_
      refine J.seq ?_
      refine J.region ?_
      refine JL.rd (Rd.move (t10 rfl rfl)) ?_
      refine JL.ef (Ef.call (.cons (t0 rfl) .nil) (operate_any d D ho) (by repeat (first | exact Sel.nil | apply Sel.cons (by repeat (first | exact .here | apply Take.there)))) ?_)
      rintro - -
      simp only [List.cons_append, List.nil_append]
      refine JL.rd (Rd.assign (t0 rfl)) ?_
      refine JL.nil ?_
      refine At.next ?_
      refine J.seq ?_
      refine J.region ?_
      refine JL.rd (Rd.move (t0 rfl)) ?_
      refine JL.rd (Rd.neq (t0 rfl) Ev.c) ?_
      refine JL.nil ?_
      refine At.next ?_
      refine J.condD (t0 rfl) ?_ ?_
      · intro hc3
        refine J.seq ?_
        refine J.region ?_
        refine JL.rd (Rd.move (t2 rfl rfl)) ?_
        refine JL.rd (Rd.assign (t0 rfl)) ?_
        refine JL.nil ?_
        refine At.next ?_
        refine J.ret ?_
        refine At.nextR ?_
        exact At.ret (()) (trivial) (ResV.one rfl (t0 rfl)) (by simp [writeC, *]) (fun _ st => by have e : writeD D i s = D.operated := (by simp [writeD, *]); rw [e]; exact Stars.sel (by repeat (first | exact Sel.nil | apply Sel.cons (by repeat (first | exact .here | apply Take.there)))) st)
      · intro hc3
        have hop : operC D = 0 := by simpa using hc3
        generalize hE : D.operated = E
        refine J.openT (by repeat (first | exact .here | apply Take.there)) dk_open ?_
        rintro ⟨m, mp, a0, cap0⟩ ⟨hwf, hdur⟩
        simp only [dparts, List.cons_append, List.nil_append]
        have hEn : E.n = D.n := by rw [← hE]; simp
        have hEp : E.pend = D.pend := by rw [← hE]; simp
        have hEl : E.pend.length = D.pend.length := by rw [hEp]
        refine J.skip ?_
        refine At.next ?_
        refine J.seq ?_
        refine J.draw [⟨false, 0, 2⟩, ⟨false, 0, 1⟩, ⟨false, 0, 1⟩, ⟨false, 0, 1⟩, ⟨false, 0, 1⟩, ⟨false, 0, 0⟩, ⟨false, 0, 0⟩, ⟨false, 0, 0⟩, ⟨false, 0, 0⟩, ⟨false, 0, 0⟩, ⟨true, 0, 0⟩, ⟨true, 1, 1⟩, ⟨false, 2, 2⟩, ⟨false, 2, 2⟩, ⟨true, 2, 2⟩] [10, 11, 14] mixed rfl ?_
        refine DRun.at [] [0, 1, 2, 3, 4, 5, 6, 7, 8, 9] rfl rfl ?_ ?_
        · exact .nil
        refine DNew.rd rfl (Rd.move (t15 rfl rfl)) ?_
        refine DNew.rd rfl (Rd.move (t16 rfl rfl)) ?_
        refine DNew.rd rfl (Rd.nil (t0 rfl)) ?_
        refine DNew.rd rfl ((by first | exact Rd.fld0 fld_81_2 (t0 rfl) | exact Rd.fld fld_81_2 (t0 rfl))) ?_
        refine DNew.rd rfl (Rd.ldN Try.isAgg79 (t0 rfl) (by repeat (first | exact .own | exact .rd | apply Blk.there)) (by repeat (first | exact .zero | apply Nth.succ))) ?_
        refine DNew.rd rfl (Rd.move (t21 rfl rfl)) ?_
        refine DNew.rd rfl (Rd.move (t23 rfl rfl)) ?_
        refine DNew.rd rfl (Rd.arrptr Try.runUnderlying84 (t0 rfl) (by omega)) ?_
        refine DNew.rd rfl (Rd.byArr Try.isAgg84 Try.sizeOf84 (t0 rfl) (SIn.bytes (by repeat (first | exact .here | apply Take.there))) hs (by decide)) ?_
        refine DNew.rd rfl (Rd.buildS (.cons (t3 rfl rfl) (.cons (t0 rfl) .nil)) bldP (fill_pend hs)) ?_
        refine DNew.nil ?_
        refine DRun.ef rfl (Ef.slit1 eltP (t0 rfl) rfl (by simp [hs]) (by decide) ?_)
        intro bs
        refine DRun.at [0, 1, 2, 3, 4] [] rfl rfl ?_ ?_
        · refine DCar.rd rfl (lk10 rfl) (Rd.move (t26 rfl rfl)) ?_
          refine DCar.rd rfl (lk9 rfl) (Rd.move (t26 rfl rfl)) ?_
          refine DCar.rd rfl (lk8 rfl) (Rd.nil (t9 rfl rfl)) ?_
          refine DCar.rd rfl (lk7 rfl) ((by first | exact Rd.fld0 fld_81_2 (t8 rfl rfl) | exact Rd.fld fld_81_2 (t8 rfl rfl))) ?_
          refine DCar.rd rfl (lk6 rfl) (Rd.ldN Try.isAgg79 (t7 rfl rfl) (by repeat (first | exact .own | exact .rd | apply Blk.there)) (by repeat (first | exact .zero | apply Nth.succ))) ?_
          exact .nil
        refine DNew.nil ?_
        refine DRun.ef rfl (Ef.appS eltP (t6 rfl rfl) (t0 rfl) (by repeat (first | exact .here | apply Take.there)) (SIn.row (by repeat (first | exact .here | apply Take.there))) (by simp) rfl (by simpa using cons_one rfl (bv_one _)) (by omega) (by simp only [maxLen]; omega) ?_)
        intro a1 cap1
        refine DRun.at [0] [12, 13] rfl rfl ?_ ?_
        · refine DCar.rd rfl (lk11 rfl) (Rd.move (t27 rfl rfl)) ?_
          exact .nil
        refine DNew.rd rfl (Rd.nil (t11 rfl rfl)) ?_
        refine DNew.rd rfl ((by first | exact Rd.fld0 fld_81_2 (t0 rfl) | exact Rd.fld fld_81_2 (t0 rfl))) ?_
        refine DNew.nil ?_
        refine DRun.ef0 rfl (Ef.st Try.sizeOf79 (t0 rfl) (t2 rfl rfl) rfl (by repeat (first | exact .here | apply Rep.there)) (by repeat (first | exact .own | exact .rd | apply Blk.there)) (by repeat (first | exact .zero | apply SetN.succ)) (by first | rfl | simp) ?_)
        refine DRun.end [] [] rfl rfl ?_ ?_
        · exact .nil
        refine DNew.nil ?_
        refine At.next ?_
        refine J.seq ?_
        refine J.live (K := [(6, _)]) ⟨(lk28 rfl), trivial⟩ ?_
        intro ρ4
        refine J.region ?_
        refine JL.rd (Rd.assign Ev.c) ?_
        refine JL.nil ?_
        refine At.next ?_
        refine J.ret ?_
        exact At.ret (()) (trivial) (ResV.one rfl (t0 rfl)) (by simp [writeC, *]) (fun _ st => by have e : writeD D i s = E.wrote i.toNat s := (by simp [writeD, *]); rw [e]; have hii : ((i.toNat : Nat) : Int) = i := (by omega); have s1 := Stars.sel (pre := [pts d (.cells [.int .i64 E.n, .map (some m), .slice a1 (E.pend.length + 1) cap1, .int .i64 E.ops, .int .i64 E.lim, .bool E.down].toArray 81), imap m mp, row a1 cap1 86 513 (E.pend.map pcell ++ [.int .i64 i :: bv s]), bytesA a cap s]) (by repeat (first | exact Sel.nil | apply Sel.cons (by repeat (first | exact .here | apply Take.there)))) st; rw [← hii] at s1; exact write_shut hwf hdur (by omega) hs (by omega) s1)

set_option maxRecDepth 100000 in
set_option maxHeartbeats 400000 in
theorem flush_any (d : Nat) (D : Dk) (ho : D.ops < 1099511627776) :
    Fn Try.prog 16 [.pointer (some ⟨d, 0, none⟩)] [dk d D] (X := Unit) (fun _ => True) (fun _ => .int .i64 (flushC D)) (fun _ => [dk d (flushD D)]) := by
  refine Fn.mk' (n := 36) (l := [(0, .pointer (some ⟨d, 0, none⟩))]) (fn := Try.f16) Try.func16 (by kernel_rfl) rfl rfl (by simp) rfl ?_
  intro h0 w0
  refine J.know (fun h s => dk_wf s) ?_
  intro hw0
  have hr0 := reach0 hw0
  refine J.seq ?_
  refine J.region ?_
  refine JL.rd (Rd.assign Ev.c) ?_
  refine JL.nil ?_
  refine At.next ?_
  refine J.seq ?_
  refine J.seq ?_
  refine J.region ?_
  refine JL.rd (Rd.move (t1 rfl rfl)) ?_
  refine JL.ef (Ef.call (.cons (t0 rfl) (.cons Ev.c .nil)) (reach_any d D 0) (by repeat (first | exact Sel.nil | apply Sel.cons (by repeat (first | exact .here | apply Take.there)))) ?_)
  rintro - -
  simp only [List.cons_append, List.nil_append]
  refine JL.rd (Rd.assign (t0 rfl)) ?_
  refine JL.nil ?_
  refine At.next ?_
  refine J.seq ?_
  refine J.region ?_
  refine JL.rd (Rd.move (t0 rfl)) ?_
  refine JL.rd (Rd.neq (t0 rfl) Ev.c) ?_
  refine JL.nil ?_
  refine At.next ?_
  refine J.condD (t0 rfl) ?_ ?_
  · intro hc1
    have hdn : D.down = true := by rw [hr0] at hc1; by_cases h : D.down = true; exact h; simp [h] at hc1
    refine J.seq ?_
    refine J.region ?_
    refine JL.rd (Rd.move (t2 rfl rfl)) ?_
    refine JL.rd (Rd.assign (t0 rfl)) ?_
    refine JL.nil ?_
    refine At.next ?_
    refine J.ret ?_
    refine At.nextR ?_
    exact At.ret (()) (trivial) (ResV.one rfl (t0 rfl)) (by simp [flushC, *]) (fun _ st => by have e : flushD D = D := (by simp [flushD, *]); rw [e]; exact Stars.sel (by repeat (first | exact Sel.nil | apply Sel.cons (by repeat (first | exact .here | apply Take.there)))) st)
  · intro hc1
    have hdn : D.down = false := by rw [hr0] at hc1; by_cases h : D.down = true; simp [h] at hc1; simpa using h
    refine J.skip ?_
    refine At.next ?_
    refine J.seq ?_
    refine J.seq ?_
    refine J.region ?_
    refine JL.rd (Rd.move (t6 rfl rfl)) ?_
    refine JL.ef (Ef.call (.cons (t0 rfl) .nil) (operate_any d D ho) (by repeat (first | exact Sel.nil | apply Sel.cons (by repeat (first | exact .here | apply Take.there)))) ?_)
    rintro - -
    simp only [List.cons_append, List.nil_append]
    refine JL.rd (Rd.assign (t0 rfl)) ?_
    refine JL.nil ?_
    refine At.next ?_
    refine J.seq ?_
    refine J.region ?_
    refine JL.rd (Rd.move (t0 rfl)) ?_
    refine JL.rd (Rd.neq (t0 rfl) Ev.c) ?_
    refine JL.nil ?_
    refine At.next ?_
    refine J.condD (t0 rfl) ?_ ?_
    · intro hc2
      refine J.seq ?_
      refine J.region ?_
      refine JL.rd (Rd.move (t2 rfl rfl)) ?_
      refine JL.rd (Rd.assign (t0 rfl)) ?_
      refine JL.nil ?_
      refine At.next ?_
      refine J.ret ?_
      refine At.nextR ?_
      exact At.ret (()) (trivial) (ResV.one rfl (t0 rfl)) (by simp [flushC, *]) (fun _ st => by have e : flushD D = D.operated := (by simp [flushD, *]); rw [e]; exact Stars.sel (by repeat (first | exact Sel.nil | apply Sel.cons (by repeat (first | exact .here | apply Take.there)))) st)
    · intro hc2
      have hop : operC D = 0 := by simpa using hc2
      refine J.skip ?_
      refine At.next ?_
      refine J.seq ?_
      refine J.seq ?_
      generalize hE : D.operated = E
      refine J.openT (by repeat (first | exact .here | apply Take.there)) dk_open ?_
      rintro ⟨m, mp, a0, cap0⟩ ⟨hwf, hdur⟩
      simp only [dparts, List.cons_append, List.nil_append]
      have hEn : E.n = D.n := by rw [← hE]; simp
      have hEp : E.pend = D.pend := by rw [← hE]; simp
      have hEl : E.pend.length = D.pend.length := by rw [hEp]
      refine J.region ?_
      refine JL.rd (Rd.move (t11 rfl rfl)) ?_
      refine JL.rd (Rd.nil (t0 rfl)) ?_
      refine JL.rd ((by first | exact Rd.fld0 fld_81_2 (t0 rfl) | exact Rd.fld fld_81_2 (t0 rfl))) ?_
      refine JL.rd (Rd.ldN Try.isAgg79 (t0 rfl) (by repeat (first | exact .own | exact .rd | apply Blk.there)) (by repeat (first | exact .zero | apply Nth.succ))) ?_
      refine JL.rd (Rd.len Try.runUnderlying79 (t0 rfl)) ?_
      refine JL.rd (Rd.move Ev.c) ?_
      refine JL.nil ?_
      refine At.next ?_
      refine J.block ?_
      refine J.loop (X := Nat × List (Int × Value)) (fun (x : Nat × List (Int × Value)) => [(22, .int .i64 (x.1 : Int))]) (K := [(21, _), (20, _), (2, _), (0, _)]) (fun x => [pts d (.cells [.int .i64 E.n, .map (some m), .slice a0 E.pend.length cap0, .int .i64 E.ops, .int .i64 E.lim, .bool E.down].toArray 81), imap m x.2, row a0 cap0 86 513 (E.pend.map pcell)]) (fun x => x.1 ≤ E.pend.length ∧ DurOk E.n (E.kept x.1) x.2) (fun x => E.pend.length - x.1) ((0, mp)) ?_ ⟨lk0.trans (by first | with_reducible rfl | (congr 1; omega) | (simp; done) | (simp [*]; done)), trivial⟩ ⟨(lk1 rfl), (lk2 rfl), (lk16 rfl), (lk17 rfl), trivial⟩ (fun _ => Stars.sel (by repeat (first | exact Sel.nil | apply Sel.cons (by repeat (first | exact .here | apply Take.there))))) ?_
      · exact ⟨Nat.zero_le _, by show DurOk E.n (E.kept 0) mp; rw [Dk.kept_zero]; exact hdur⟩
      rintro ⟨k, mk⟩ ρ ⟨hk, hdk⟩
      simp only [List.cons_append, List.nil_append]
      dsimp only at hk hdk ⊢
      have hlen := hwf.plen
      refine J.seq ?_
      refine J.region ?_
      refine JL.rd (Rd.lss (t0 rfl) (t1 rfl rfl)) ?_
      refine JL.nil ?_
      refine At.next ?_
      refine J.seq ?_
      refine J.condD (t0 rfl) ?_ ?_
      · intro hc3
        obtain ⟨p, hp⟩ : ∃ p, E.pend[k]? = some p := ⟨_, List.getElem?_eq_getElem (by omega)⟩
        have hx : (E.pend.map pcell)[(k : Int).toNat]? = some (.int .i64 (p.1 : Int) :: bv p.2) := by simp [hp, pcell]
        have hpl := hwf.pend p (List.mem_of_getElem? hp)
        have hpl2 := hpl.2
        refine J.skip ?_
        refine At.next ?_
        refine J.seq ?_
        refine J.block ?_
        refine J.seq ?_
        refine J.region ?_
        refine JL.rd (Rd.sIdx Try.runUnderlying79 Try.sizeOf86 (t3 rfl rfl) (t1 rfl rfl) (SIn.row (by repeat (first | exact .here | apply Take.there))) (by simp) (by omega) (by omega)) ?_
        refine JL.rd (Rd.sLdA Try.isAgg86 Try.sizeOf86 (t0 rfl) (SIn.row (by repeat (first | exact .here | apply Take.there))) hx) ?_
        refine JL.ef (Ef.alloc zeroP rfl ?_)
        intro b4
        refine JL.ef0 (Ef.stB Try.sizeOf86 (t0 rfl) (t1 rfl rfl) (by repeat (first | exact .here | apply Rep.there)) (by repeat (first | exact .own | exact .rd | apply Blk.there)) (by first | rfl | assumption | simp_all) (by first | rfl | assumption | simp_all) (by first | exact bv_one _ | exact cons_one rfl (bv_one _) | (simp [Value.oneCell']; done) | (simp [Value.oneCell', str]; done)) (by decide) ?_)
        refine JL.nil ?_
        refine At.next ?_
        refine J.region ?_
        refine JL.rd (Rd.move (t8 rfl rfl)) ?_
        refine JL.rd ((by first | exact Rd.fld0 fld_86_0 (t1 rfl rfl) | exact Rd.fldz fld_86_0 (t1 rfl rfl))) ?_
        refine JL.rd (Rd.ldN Try.isAgg3 (t0 rfl) (by repeat (first | exact .own | exact .rd | apply Blk.there)) (by repeat (first | exact .zero | apply Nth.succ))) ?_
        refine JL.rd ((by first | exact Rd.fld0 fld_86_1 (t3 rfl rfl) | exact Rd.fld fld_86_1 (t3 rfl rfl))) ?_
        refine JL.rd (Rd.ldA (vs := bv p.2) Try.isAgg84 Try.sizeOf84 (t0 rfl) (by repeat (first | exact .own | exact .rd | apply Blk.there)) (by show List.take 512 (bv p.2) = bv p.2; exact List.take_of_length_le (by simp [hpl2])) (by simp [hpl2])) ?_
        refine JL.ef (Ef.call (.cons (t4 rfl rfl) (.cons (t2 rfl rfl) (.cons (t0 rfl) .nil))) (keep_any (.int .i64 (E.n : Int)) (.slice a0 E.pend.length cap0) (.int .i64 E.ops) (.int .i64 E.lim) (.bool E.down) d m mk (p.1 : Int) p.2 hpl.2) (by repeat (first | exact Sel.nil | apply Sel.cons (by repeat (first | exact .here | apply Take.there)))) ?_)
        rintro - -
        simp only [List.cons_append, List.nil_append]
        refine JL.nil ?_
        refine At.blkN ?_
        refine At.next ?_
        refine J.region ?_
        refine JL.rd (Rd.add (t10 rfl rfl) Ev.c (w64 (by omega) (by omega))) ?_
        refine JL.rd (Rd.move (t0 rfl)) ?_
        refine JL.nil ?_
        refine At.again ((k + 1, if p.2 = zb then mdel mk (p.1 : Int) else mput mk (p.1 : Int) (.agg (bv p.2).toArray))) ?_ ?_ ⟨lk0.trans (by first | with_reducible rfl | (congr 1; omega) | (simp; done) | (simp [*]; done)), trivial⟩ ⟨(lk13 rfl), (lk14 rfl), (lk15 rfl), (lk16 rfl), trivial⟩ (fun _ => Stars.sel (by repeat (first | exact Sel.nil | apply Sel.cons (by repeat (first | exact .here | apply Take.there)))))
        · exact ⟨by show k + 1 ≤ _; omega, by show DurOk E.n (E.kept (k + 1)) _; rw [Dk.kept_succ hp]; exact dur_keep hdk hpl.1 p.2⟩
        · show E.pend.length - (k + 1) < E.pend.length - k; omega
      · intro hc3
        obtain rfl : k = E.pend.length := by omega
        rw [Dk.kept_all] at hdk
        refine J.exit ?_
        refine At.nextX ?_
        refine At.loopX ?_
        refine At.blkX ?_
        refine At.next ?_
        refine J.seq ?_
        refine J.region ?_
        refine JL.rd (Rd.move (t5 rfl rfl)) ?_
        refine JL.rd (Rd.nil (t0 rfl)) ?_
        refine JL.rd ((by first | exact Rd.fld0 fld_81_2 (t0 rfl) | exact Rd.fld fld_81_2 (t0 rfl))) ?_
        refine JL.ef0 (Ef.st Try.sizeOf79 (t0 rfl) Ev.c rfl (by repeat (first | exact .here | apply Rep.there)) (by repeat (first | exact .own | exact .rd | apply Blk.there)) (by repeat (first | exact .zero | apply SetN.succ)) (by first | rfl | simp) ?_)
        refine JL.nil ?_
        refine At.next ?_
        refine J.seq ?_
        refine J.region ?_
        refine JL.rd (Rd.assign Ev.c) ?_
        refine JL.nil ?_
        refine At.next ?_
        refine J.ret ?_
        exact At.ret (()) (trivial) (ResV.one rfl (t0 rfl)) (by simp [flushC, *]) (fun _ st => by have e : flushD D = E.flushed := (by simp [flushD, *]); rw [e]; have s1 := Stars.sel (pre := [pts d (.cells [.int .i64 E.n, .map (some m), .slice none 0 0, .int .i64 E.ops, .int .i64 E.lim, .bool E.down].toArray 81), imap m mk]) (by repeat (first | exact Sel.nil | apply Sel.cons (by repeat (first | exact .here | apply Take.there)))) st; exact flush_shut hwf hdk s1)

set_option maxRecDepth 100000 in
set_option maxHeartbeats 400000 in
theorem restart_any (d : Nat) (D : Dk) (a : Option Addr) (n cap : Nat) (cs : List UInt8) (hcn : cs.length = n) (A : Assn) (hA : ∀ {hs hs1 : List Assn}, Take A hs hs1 → SIn hs a 1 (b1s cs)) :
    Fn Try.prog 18 [.pointer (some ⟨d, 0, none⟩), .slice a n cap] [dk d D, A] (X := Unit) (fun _ => True) (fun _ => .int .i64 (backC D)) (fun _ => [dk d (backD D cs), A]) := by
  refine Fn.mk' (n := 65) (l := [(0, .pointer (some ⟨d, 0, none⟩)), (1, .slice a n cap)]) (fn := Try.f18) Try.func18 (by kernel_rfl) rfl rfl (by simp) rfl ?_
  intro h0 w0
  refine J.openT .here dk_open ?_
  rintro ⟨m, mp, a0, cap0⟩ ⟨hwf, hdur⟩
  simp only [dparts, List.cons_append, List.nil_append]
  refine J.seq ?_
  refine J.region ?_
  refine JL.rd (Rd.assign Ev.c) ?_
  refine JL.nil ?_
  refine At.next ?_
  refine J.seq ?_
  refine J.block ?_
  refine J.seq ?_
  refine J.region ?_
  refine JL.rd (Rd.move (t1 rfl rfl)) ?_
  refine JL.rd (Rd.eqlNil (t0 rfl) Try.runUnderlying23) ?_
  refine JL.rd (Rd.assign (t0 rfl)) ?_
  refine JL.nil ?_
  refine At.next ?_
  refine J.condF (EvB (t0 rfl) rfl) ?_
  refine J.seq ?_
  refine J.region ?_
  refine JL.rd (Rd.move (t4 rfl rfl)) ?_
  refine JL.rd (Rd.nil (t0 rfl)) ?_
  refine JL.rd ((by first | exact Rd.fld0 fld_81_5 (t0 rfl) | exact Rd.fld fld_81_5 (t0 rfl))) ?_
  refine JL.rd (Rd.ldN Try.isAgg4 (t0 rfl) (by repeat (first | exact .own | exact .rd | apply Blk.there)) (by repeat (first | exact .zero | apply Nth.succ))) ?_
  refine JL.rd (Rd.not (t0 rfl)) ?_
  refine JL.rd (Rd.assign (t0 rfl)) ?_
  refine JL.nil ?_
  refine At.next ?_
  refine J.cond (t0 rfl) ?_ ?_
  · intro hc1
    have hdn : D.down = false := by simpa using hc1
    refine J.seq ?_
    refine J.region ?_
    refine JL.rd (Rd.assign Ev.c) ?_
    refine JL.nil ?_
    refine At.next ?_
    refine J.ret ?_
    refine At.blkR ?_
    refine At.nextR ?_
    exact At.ret (()) (trivial) (ResV.one rfl (t0 rfl)) (by simp [backC, *]) (fun _ st => by have e : backD D cs = D := (by simp [backD, *]); rw [e]; exact dk_shut hwf hdur (Stars.sel (by repeat (first | exact Sel.nil | apply Sel.cons (by repeat (first | exact .here | apply Take.there)))) st))
  · intro hc1
    have hdn : D.down = true := by simpa using hc1
    refine J.skip ?_
    refine At.blkN ?_
    refine At.next ?_
    refine J.seq ?_
    refine J.seq ?_
    refine J.region ?_
    refine JL.rd (Rd.move (t10 rfl rfl)) ?_
    refine JL.rd (Rd.nil (t0 rfl)) ?_
    refine JL.rd ((by first | exact Rd.fld0 fld_81_2 (t0 rfl) | exact Rd.fld fld_81_2 (t0 rfl))) ?_
    refine JL.rd (Rd.ldN Try.isAgg79 (t0 rfl) (by repeat (first | exact .own | exact .rd | apply Blk.there)) (by repeat (first | exact .zero | apply Nth.succ))) ?_
    refine JL.rd (Rd.len Try.runUnderlying79 (t0 rfl)) ?_
    refine JL.rd (Rd.move Ev.c) ?_
    refine JL.nil ?_
    refine At.next ?_
    refine J.block ?_
    refine J.loop (X := Nat × List (Int × Value)) (fun (x : Nat × List (Int × Value)) => [(22, .int .i64 (x.1 : Int))]) (K := [(21, _), (20, _), (4, _), (0, _), (1, _)]) (fun x => [pts d (.cells [.int .i64 D.n, .map (some m), .slice a0 D.pend.length cap0, .int .i64 D.ops, .int .i64 D.lim, .bool D.down].toArray 81), imap m x.2, row a0 cap0 86 513 (D.pend.map pcell), A]) (fun x => x.1 ≤ D.pend.length ∧ DurOk D.n (D.back cs x.1) x.2) (fun x => D.pend.length - x.1) ((0, mp)) ?_ ⟨lk0.trans (by first | with_reducible rfl | (congr 1; omega) | (simp; done) | (simp [*]; done)), trivial⟩ ⟨(lk1 rfl), (lk2 rfl), (lk15 rfl), (lk16 rfl), (lk17 rfl), trivial⟩ (fun _ => Stars.sel (by repeat (first | exact Sel.nil | apply Sel.cons (by repeat (first | exact .here | apply Take.there))))) ?_
    · exact ⟨Nat.zero_le _, hdur⟩
    rintro ⟨k, mk⟩ ρ ⟨hk, hdk⟩
    simp only [List.cons_append, List.nil_append]
    dsimp only at hk hdk ⊢
    have hlen := hwf.plen
    refine J.seq ?_
    refine J.region ?_
    refine JL.rd (Rd.lss (t0 rfl) (t1 rfl rfl)) ?_
    refine JL.nil ?_
    refine At.next ?_
    refine J.seq ?_
    refine J.condD (t0 rfl) ?_ ?_
    · intro hc2
      obtain ⟨p, hp⟩ : ∃ p, D.pend[k]? = some p := ⟨_, List.getElem?_eq_getElem (by omega)⟩
      have hx : (D.pend.map pcell)[(k : Int).toNat]? = some (.int .i64 (p.1 : Int) :: bv p.2) := by simp [hp, pcell]
      have hpl := hwf.pend p (List.mem_of_getElem? hp)
      have hpl2 := hpl.2
      refine J.skip ?_
      refine At.next ?_
      refine J.seq ?_
      refine J.block ?_
      refine J.seq ?_
      refine J.region ?_
      refine JL.rd (Rd.move (t1 rfl rfl)) ?_
      refine JL.rd (Rd.sIdx Try.runUnderlying79 Try.sizeOf86 (t4 rfl rfl) (t2 rfl rfl) (SIn.row (by repeat (first | exact .here | apply Take.there))) (by simp) (by omega) (by omega)) ?_
      refine JL.rd (Rd.sLdA Try.isAgg86 Try.sizeOf86 (t0 rfl) (SIn.row (by repeat (first | exact .here | apply Take.there))) hx) ?_
      refine JL.ef (Ef.alloc zeroP rfl ?_)
      intro b3
      refine JL.rd (Rd.assign (t3 rfl rfl)) ?_
      refine JL.ef0 (Ef.stB Try.sizeOf86 (t1 rfl rfl) (t2 rfl rfl) (by repeat (first | exact .here | apply Rep.there)) (by repeat (first | exact .own | exact .rd | apply Blk.there)) (by first | rfl | assumption | simp_all) (by first | rfl | assumption | simp_all) (by first | exact bv_one _ | exact cons_one rfl (bv_one _) | (simp [Value.oneCell']; done) | (simp [Value.oneCell', str]; done)) (by decide) ?_)
      refine JL.nil ?_
      refine At.next ?_
      refine J.seq ?_
      refine J.region ?_
      refine JL.rd (Rd.assign Ev.c) ?_
      refine JL.nil ?_
      refine At.next ?_
      refine J.seq ?_
      refine J.seq ?_
      refine J.region ?_
      refine JL.rd (Rd.move (t1 rfl rfl)) ?_
      refine JL.rd (Rd.move (t13 rfl rfl)) ?_
      refine JL.rd (Rd.len Try.runUnderlying28 (t0 rfl)) ?_
      refine JL.rd (Rd.lss (t2 rfl rfl) (t0 rfl)) ?_
      refine JL.nil ?_
      refine At.next ?_
      refine J.condD (t0 rfl) ?_ ?_
      · intro hc4
        refine J.region ?_
        refine JL.rd (Rd.move (t16 rfl rfl)) ?_
        refine JL.rd (Rd.move (t6 rfl rfl)) ?_
        refine JL.rd (Rd.byIdx Try.runUnderlying28 Try.sizeOf5 (t1 rfl rfl) (t0 rfl) (by first | (apply SIn.bytes; (repeat (first | exact .here | apply Take.there)); done) | (apply SIn.rowR; (repeat (first | exact .here | apply Take.there)); done) | (apply hA; (repeat (first | exact .here | apply Take.there)); done)) (by first | (simp; done) | (simp; omega) | omega | (simp [*]; done)) (by omega) (by omega)) ?_
        refine JL.rd (Rd.byLd Try.isAgg5 (t0 rfl) (by first | (apply SIn.bytes; (repeat (first | exact .here | apply Take.there)); done) | (apply SIn.rowR; (repeat (first | exact .here | apply Take.there)); done) | (apply hA; (repeat (first | exact .here | apply Take.there)); done)) (by first | (simp; done) | (simp; omega) | omega | (simp [*]; done))) ?_
        simp only [Int.toNat_natCast]
        refine JL.rd (Rd.assign (t0 rfl)) ?_
        refine JL.nil ?_
        refine At.next ?_
        obtain ⟨ff, hff, hfn⟩ := fate_fn (D.back cs k p.1) p.2 (cs.getD k 0) (hwf.back cs k p.1) hpl.2
        have hc3 : (((cs.getD k 0).toNat : Int) % 3).toNat = (cs.getD k 0).toNat % 3 := by omega
        have hcl := (cs.getD k 0).toNat_lt
        refine J.draw [⟨false, 0, 2⟩, ⟨false, 0, 2⟩, ⟨false, 0, 2⟩, ⟨true, 0, 0⟩, ⟨false, 0, 1⟩, ⟨false, 0, 1⟩, ⟨false, 1, 1⟩, ⟨false, 1, 1⟩, ⟨false, 0, 1⟩, ⟨false, 0, 1⟩, ⟨false, 0, 1⟩, ⟨false, 0, 1⟩, ⟨false, 0, 1⟩, ⟨false, 0, 1⟩, ⟨false, 0, 1⟩, ⟨false, 0, 1⟩, ⟨false, 0, 1⟩, ⟨false, 0, 1⟩, ⟨true, 1, 1⟩, ⟨true, 2, 2⟩] [3, 18, 19] mixed rfl ?_
        refine DRun.at [] [0, 1, 2, 4, 5, 8, 9, 10, 11, 12, 13, 14, 15, 16, 17] rfl rfl ?_ ?_
        · exact .nil
        refine DNew.rd rfl (Rd.move (t20 rfl rfl)) ?_
        refine DNew.rd rfl ((by first | exact Rd.fld0 fld_86_0 (t12 rfl rfl) | exact Rd.fldz fld_86_0 (t12 rfl rfl))) ?_
        refine DNew.rd rfl (Rd.ldN Try.isAgg3 (t0 rfl) (by repeat (first | exact .own | exact .rd | apply Blk.there)) (by repeat (first | exact .zero | apply Nth.succ))) ?_
        refine DNew.rd rfl (Rd.move (t3 rfl rfl)) ?_
        refine DNew.rd rfl (Rd.rem (t0 rfl) Ev.c (by omega) (by omega)) ?_
        refine DNew.rd rfl (Rd.move (t25 rfl rfl)) ?_
        refine DNew.rd rfl (Rd.nil (t0 rfl)) ?_
        refine DNew.rd rfl ((by first | exact Rd.fld0 fld_81_1 (t0 rfl) | exact Rd.fld fld_81_1 (t0 rfl))) ?_
        refine DNew.rd rfl (Rd.ldN Try.isAgg78 (t0 rfl) (by repeat (first | exact .own | exact .rd | apply Blk.there)) (by repeat (first | exact .zero | apply Nth.succ))) ?_
        refine DNew.rd rfl ((by first | exact Rd.fld0 fld_86_0 (t20 rfl rfl) | exact Rd.fldz fld_86_0 (t20 rfl rfl))) ?_
        refine DNew.rd rfl (Rd.ldN Try.isAgg3 (t0 rfl) (by repeat (first | exact .own | exact .rd | apply Blk.there)) (by repeat (first | exact .zero | apply Nth.succ))) ?_
        refine DNew.rd rfl (Rd.lookup (v := .agg (bv (D.back cs k p.1)).toArray) Try.runUnderlying78 Try.runUnderlying3 zero0 (t2 rfl rfl) (t0 rfl) (by repeat (first | exact .here | apply Take.there)) (dur_get hdk hpl.1)) ?_
        refine DNew.rd rfl ((by first | exact Rd.fld0 fld_86_1 (t23 rfl rfl) | exact Rd.fld fld_86_1 (t23 rfl rfl))) ?_
        refine DNew.rd rfl (Rd.ldA (vs := bv p.2) Try.isAgg84 Try.sizeOf84 (t0 rfl) (by repeat (first | exact .own | exact .rd | apply Blk.there)) (by show List.take 512 (bv p.2) = bv p.2; exact List.take_of_length_le (by simp [hpl2])) (by simp [hpl2])) ?_
        refine DNew.rd rfl (Rd.move (t14 rfl rfl)) ?_
        refine DNew.nil ?_
        refine DRun.ef rfl (Ef.call .nil (fates_any) (by repeat (first | exact Sel.nil | apply Sel.cons (by repeat (first | exact .here | apply Take.there)))) ?_)
        rintro bf -
        simp only [List.cons_append, List.nil_append]
        refine DRun.at [0, 1, 2, 4, 5, 8, 9, 10, 11, 12, 13, 14, 15, 16, 17] [6, 7] rfl rfl ?_ ?_
        · refine DCar.rd rfl (lk15 rfl) (Rd.move (t36 rfl rfl)) ?_
          refine DCar.rd rfl (lk14 rfl) ((by first | exact Rd.fld0 fld_86_0 (t27 rfl rfl) | exact Rd.fldz fld_86_0 (t27 rfl rfl))) ?_
          refine DCar.rd rfl (lk13 rfl) (Rd.ldN Try.isAgg3 (t14 rfl rfl) (by repeat (first | exact .own | exact .rd | apply Blk.there)) (by repeat (first | exact .zero | apply Nth.succ))) ?_
          refine DCar.rd rfl (lk12 rfl) (Rd.move (t16 rfl rfl)) ?_
          refine DCar.rd rfl (lk11 rfl) (Rd.rem (t12 rfl rfl) Ev.c (by omega) (by omega)) ?_
          refine DCar.rd rfl (lk10 rfl) (Rd.move (t36 rfl rfl)) ?_
          refine DCar.rd rfl (lk9 rfl) (Rd.nil (t10 rfl rfl)) ?_
          refine DCar.rd rfl (lk8 rfl) ((by first | exact Rd.fld0 fld_81_1 (t9 rfl rfl) | exact Rd.fld fld_81_1 (t9 rfl rfl))) ?_
          refine DCar.rd rfl (lk7 rfl) (Rd.ldN Try.isAgg78 (t8 rfl rfl) (by repeat (first | exact .own | exact .rd | apply Blk.there)) (by repeat (first | exact .zero | apply Nth.succ))) ?_
          refine DCar.rd rfl (lk6 rfl) ((by first | exact Rd.fld0 fld_86_0 (t27 rfl rfl) | exact Rd.fldz fld_86_0 (t27 rfl rfl))) ?_
          refine DCar.rd rfl (lk5 rfl) (Rd.ldN Try.isAgg3 (t6 rfl rfl) (by repeat (first | exact .own | exact .rd | apply Blk.there)) (by repeat (first | exact .zero | apply Nth.succ))) ?_
          refine DCar.rd rfl (lk4 rfl) (Rd.lookup (v := .agg (bv (D.back cs k p.1)).toArray) Try.runUnderlying78 Try.runUnderlying3 zero0 (t7 rfl rfl) (t5 rfl rfl) (by repeat (first | exact .here | apply Take.there)) (dur_get hdk hpl.1)) ?_
          refine DCar.rd rfl (lk3 rfl) ((by first | exact Rd.fld0 fld_86_1 (t27 rfl rfl) | exact Rd.fld fld_86_1 (t27 rfl rfl))) ?_
          refine DCar.rd rfl (lk2 rfl) (Rd.ldA (vs := bv p.2) Try.isAgg84 Try.sizeOf84 (t3 rfl rfl) (by repeat (first | exact .own | exact .rd | apply Blk.there)) (by show List.take 512 (bv p.2) = bv p.2; exact List.take_of_length_le (by simp [hpl2])) (by simp [hpl2])) ?_
          refine DCar.rd rfl (lk1 rfl) (Rd.move (t16 rfl rfl)) ?_
          exact .nil
        refine DNew.rd rfl ((by first | exact Rd.idx0 Try.runUnderlying89 Try.sizeOf88 (t0 rfl) (t11 rfl rfl) (by omega) (by omega) | exact Rd.idx Try.runUnderlying89 Try.sizeOf88 (t0 rfl) (t11 rfl rfl) (by omega) (by omega))) ?_
        refine DNew.rd rfl (Rd.ld Try.isAgg88 (t0 rfl) (by repeat (first | exact .own | exact .rd | apply Blk.there)) (by rw [hc3]; exact hff)) ?_
        refine DNew.nil ?_
        refine DRun.ef rfl (Ef.callv (t0 rfl) (.cons (t6 rfl rfl) (.cons (t4 rfl rfl) (.cons (t3 rfl rfl) .nil))) hfn (by repeat (first | exact Sel.nil | apply Sel.cons (by repeat (first | exact .here | apply Take.there)))) ?_)
        rintro - -
        simp only [List.nil_append]
        refine DRun.at [0, 1, 2] [] rfl rfl ?_ ?_
        · refine DCar.rd rfl (lk18 rfl) (Rd.move (t39 rfl rfl)) ?_
          refine DCar.rd rfl (lk17 rfl) ((by first | exact Rd.fld0 fld_86_0 (t30 rfl rfl) | exact Rd.fldz fld_86_0 (t30 rfl rfl))) ?_
          refine DCar.rd rfl (lk16 rfl) (Rd.ldN Try.isAgg3 (t17 rfl rfl) (by repeat (first | exact .own | exact .rd | apply Blk.there)) (by repeat (first | exact .zero | apply Nth.succ))) ?_
          exact .nil
        refine DNew.nil ?_
        refine DRun.ef rfl (Ef.call (.cons (t18 rfl rfl) (.cons (t16 rfl rfl) (.cons (t0 rfl) .nil))) (keep_any (.int .i64 (D.n : Int)) (.slice a0 D.pend.length cap0) (.int .i64 D.ops) (.int .i64 D.lim) (.bool D.down) d m mk (p.1 : Int) (fate (cs.getD k 0) (D.back cs k p.1) p.2) (fate_length (hwf.back cs k p.1) hpl.2)) (by repeat (first | exact Sel.nil | apply Sel.cons (by repeat (first | exact .here | apply Take.there)))) ?_)
        rintro - -
        simp only [List.cons_append, List.nil_append]
        refine DRun.end [] [] rfl rfl ?_ ?_
        · exact .nil
        refine DNew.nil ?_
        refine At.blkN ?_
        refine At.next ?_
        refine J.live (K := [(22, _), (21, _), (20, _), (4, _), (0, _), (1, _)]) ⟨(lk36 rfl), (lk37 rfl), (lk38 rfl), (lk39 rfl), (lk40 rfl), (lk41 rfl), trivial⟩ ?_
        intro ρ5
        refine J.region ?_
        refine JL.rd (Rd.add (t0 rfl) Ev.c (w64 (by omega) (by omega))) ?_
        refine JL.rd (Rd.move (t0 rfl)) ?_
        refine JL.nil ?_
        refine At.again ((k + 1, if fate (cs.getD k 0) (D.back cs k p.1) p.2 = zb then mdel mk (p.1 : Int) else mput mk (p.1 : Int) (.agg (bv (fate (cs.getD k 0) (D.back cs k p.1) p.2)).toArray))) ?_ ?_ ⟨lk0.trans (by first | with_reducible rfl | (congr 1; omega) | (simp; done) | (simp [*]; done)), trivial⟩ ⟨(lk3 rfl), (lk4 rfl), (lk5 rfl), (lk6 rfl), (lk7 rfl), trivial⟩ (fun _ => Stars.sel (by repeat (first | exact Sel.nil | apply Sel.cons (by repeat (first | exact .here | apply Take.there)))))
        · exact ⟨by show k + 1 ≤ _; omega, by show DurOk D.n (D.back cs (k + 1)) _; rw [Dk.back_succ hp]; exact dur_keep hdk hpl.1 _⟩
        · show D.pend.length - (k + 1) < D.pend.length - k; omega
      · intro hc4
        have hg : Value.int .u8 0 = .int .u8 ((cs.getD k 0).toNat : Int) := by simp [List.getElem?_eq_none (show cs.length ≤ k by omega)]
        rw [hg]
        refine J.skip ?_
        refine At.next ?_
        obtain ⟨ff, hff, hfn⟩ := fate_fn (D.back cs k p.1) p.2 (cs.getD k 0) (hwf.back cs k p.1) hpl.2
        have hc3 : (((cs.getD k 0).toNat : Int) % 3).toNat = (cs.getD k 0).toNat % 3 := by omega
        have hcl := (cs.getD k 0).toNat_lt
        refine J.draw [⟨false, 0, 2⟩, ⟨false, 0, 2⟩, ⟨false, 0, 2⟩, ⟨true, 0, 0⟩, ⟨false, 0, 1⟩, ⟨false, 0, 1⟩, ⟨false, 1, 1⟩, ⟨false, 1, 1⟩, ⟨false, 0, 1⟩, ⟨false, 0, 1⟩, ⟨false, 0, 1⟩, ⟨false, 0, 1⟩, ⟨false, 0, 1⟩, ⟨false, 0, 1⟩, ⟨false, 0, 1⟩, ⟨false, 0, 1⟩, ⟨false, 0, 1⟩, ⟨false, 0, 1⟩, ⟨true, 1, 1⟩, ⟨true, 2, 2⟩] [3, 18, 19] mixed rfl ?_
        refine DRun.at [] [0, 1, 2, 4, 5, 8, 9, 10, 11, 12, 13, 14, 15, 16, 17] rfl rfl ?_ ?_
        · exact .nil
        refine DNew.rd rfl (Rd.move (t15 rfl rfl)) ?_
        refine DNew.rd rfl ((by first | exact Rd.fld0 fld_86_0 (t7 rfl rfl) | exact Rd.fldz fld_86_0 (t7 rfl rfl))) ?_
        refine DNew.rd rfl (Rd.ldN Try.isAgg3 (t0 rfl) (by repeat (first | exact .own | exact .rd | apply Blk.there)) (by repeat (first | exact .zero | apply Nth.succ))) ?_
        refine DNew.rd rfl (Rd.move (t7 rfl rfl)) ?_
        refine DNew.rd rfl (Rd.rem (t0 rfl) Ev.c (by omega) (by omega)) ?_
        refine DNew.rd rfl (Rd.move (t20 rfl rfl)) ?_
        refine DNew.rd rfl (Rd.nil (t0 rfl)) ?_
        refine DNew.rd rfl ((by first | exact Rd.fld0 fld_81_1 (t0 rfl) | exact Rd.fld fld_81_1 (t0 rfl))) ?_
        refine DNew.rd rfl (Rd.ldN Try.isAgg78 (t0 rfl) (by repeat (first | exact .own | exact .rd | apply Blk.there)) (by repeat (first | exact .zero | apply Nth.succ))) ?_
        refine DNew.rd rfl ((by first | exact Rd.fld0 fld_86_0 (t15 rfl rfl) | exact Rd.fldz fld_86_0 (t15 rfl rfl))) ?_
        refine DNew.rd rfl (Rd.ldN Try.isAgg3 (t0 rfl) (by repeat (first | exact .own | exact .rd | apply Blk.there)) (by repeat (first | exact .zero | apply Nth.succ))) ?_
        refine DNew.rd rfl (Rd.lookup (v := .agg (bv (D.back cs k p.1)).toArray) Try.runUnderlying78 Try.runUnderlying3 zero0 (t2 rfl rfl) (t0 rfl) (by repeat (first | exact .here | apply Take.there)) (dur_get hdk hpl.1)) ?_
        refine DNew.rd rfl ((by first | exact Rd.fld0 fld_86_1 (t18 rfl rfl) | exact Rd.fld fld_86_1 (t18 rfl rfl))) ?_
        refine DNew.rd rfl (Rd.ldA (vs := bv p.2) Try.isAgg84 Try.sizeOf84 (t0 rfl) (by repeat (first | exact .own | exact .rd | apply Blk.there)) (by show List.take 512 (bv p.2) = bv p.2; exact List.take_of_length_le (by simp [hpl2])) (by simp [hpl2])) ?_
        refine DNew.rd rfl (Rd.move (t18 rfl rfl)) ?_
        refine DNew.nil ?_
        refine DRun.ef rfl (Ef.call .nil (fates_any) (by repeat (first | exact Sel.nil | apply Sel.cons (by repeat (first | exact .here | apply Take.there)))) ?_)
        rintro bf -
        simp only [List.cons_append, List.nil_append]
        refine DRun.at [0, 1, 2, 4, 5, 8, 9, 10, 11, 12, 13, 14, 15, 16, 17] [6, 7] rfl rfl ?_ ?_
        · refine DCar.rd rfl (lk15 rfl) (Rd.move (t31 rfl rfl)) ?_
          refine DCar.rd rfl (lk14 rfl) ((by first | exact Rd.fld0 fld_86_0 (t22 rfl rfl) | exact Rd.fldz fld_86_0 (t22 rfl rfl))) ?_
          refine DCar.rd rfl (lk13 rfl) (Rd.ldN Try.isAgg3 (t14 rfl rfl) (by repeat (first | exact .own | exact .rd | apply Blk.there)) (by repeat (first | exact .zero | apply Nth.succ))) ?_
          refine DCar.rd rfl (lk12 rfl) (Rd.move (t20 rfl rfl)) ?_
          refine DCar.rd rfl (lk11 rfl) (Rd.rem (t12 rfl rfl) Ev.c (by omega) (by omega)) ?_
          refine DCar.rd rfl (lk10 rfl) (Rd.move (t31 rfl rfl)) ?_
          refine DCar.rd rfl (lk9 rfl) (Rd.nil (t10 rfl rfl)) ?_
          refine DCar.rd rfl (lk8 rfl) ((by first | exact Rd.fld0 fld_81_1 (t9 rfl rfl) | exact Rd.fld fld_81_1 (t9 rfl rfl))) ?_
          refine DCar.rd rfl (lk7 rfl) (Rd.ldN Try.isAgg78 (t8 rfl rfl) (by repeat (first | exact .own | exact .rd | apply Blk.there)) (by repeat (first | exact .zero | apply Nth.succ))) ?_
          refine DCar.rd rfl (lk6 rfl) ((by first | exact Rd.fld0 fld_86_0 (t22 rfl rfl) | exact Rd.fldz fld_86_0 (t22 rfl rfl))) ?_
          refine DCar.rd rfl (lk5 rfl) (Rd.ldN Try.isAgg3 (t6 rfl rfl) (by repeat (first | exact .own | exact .rd | apply Blk.there)) (by repeat (first | exact .zero | apply Nth.succ))) ?_
          refine DCar.rd rfl (lk4 rfl) (Rd.lookup (v := .agg (bv (D.back cs k p.1)).toArray) Try.runUnderlying78 Try.runUnderlying3 zero0 (t7 rfl rfl) (t5 rfl rfl) (by repeat (first | exact .here | apply Take.there)) (dur_get hdk hpl.1)) ?_
          refine DCar.rd rfl (lk3 rfl) ((by first | exact Rd.fld0 fld_86_1 (t22 rfl rfl) | exact Rd.fld fld_86_1 (t22 rfl rfl))) ?_
          refine DCar.rd rfl (lk2 rfl) (Rd.ldA (vs := bv p.2) Try.isAgg84 Try.sizeOf84 (t3 rfl rfl) (by repeat (first | exact .own | exact .rd | apply Blk.there)) (by show List.take 512 (bv p.2) = bv p.2; exact List.take_of_length_le (by simp [hpl2])) (by simp [hpl2])) ?_
          refine DCar.rd rfl (lk1 rfl) (Rd.move (t20 rfl rfl)) ?_
          exact .nil
        refine DNew.rd rfl ((by first | exact Rd.idx0 Try.runUnderlying89 Try.sizeOf88 (t0 rfl) (t11 rfl rfl) (by omega) (by omega) | exact Rd.idx Try.runUnderlying89 Try.sizeOf88 (t0 rfl) (t11 rfl rfl) (by omega) (by omega))) ?_
        refine DNew.rd rfl (Rd.ld Try.isAgg88 (t0 rfl) (by repeat (first | exact .own | exact .rd | apply Blk.there)) (by rw [hc3]; exact hff)) ?_
        refine DNew.nil ?_
        refine DRun.ef rfl (Ef.callv (t0 rfl) (.cons (t6 rfl rfl) (.cons (t4 rfl rfl) (.cons (t3 rfl rfl) .nil))) hfn (by repeat (first | exact Sel.nil | apply Sel.cons (by repeat (first | exact .here | apply Take.there)))) ?_)
        rintro - -
        simp only [List.nil_append]
        refine DRun.at [0, 1, 2] [] rfl rfl ?_ ?_
        · refine DCar.rd rfl (lk18 rfl) (Rd.move (t34 rfl rfl)) ?_
          refine DCar.rd rfl (lk17 rfl) ((by first | exact Rd.fld0 fld_86_0 (t25 rfl rfl) | exact Rd.fldz fld_86_0 (t25 rfl rfl))) ?_
          refine DCar.rd rfl (lk16 rfl) (Rd.ldN Try.isAgg3 (t17 rfl rfl) (by repeat (first | exact .own | exact .rd | apply Blk.there)) (by repeat (first | exact .zero | apply Nth.succ))) ?_
          exact .nil
        refine DNew.nil ?_
        refine DRun.ef rfl (Ef.call (.cons (t18 rfl rfl) (.cons (t16 rfl rfl) (.cons (t0 rfl) .nil))) (keep_any (.int .i64 (D.n : Int)) (.slice a0 D.pend.length cap0) (.int .i64 D.ops) (.int .i64 D.lim) (.bool D.down) d m mk (p.1 : Int) (fate (cs.getD k 0) (D.back cs k p.1) p.2) (fate_length (hwf.back cs k p.1) hpl.2)) (by repeat (first | exact Sel.nil | apply Sel.cons (by repeat (first | exact .here | apply Take.there)))) ?_)
        rintro - -
        simp only [List.cons_append, List.nil_append]
        refine DRun.end [] [] rfl rfl ?_ ?_
        · exact .nil
        refine DNew.nil ?_
        refine At.blkN ?_
        refine At.next ?_
        refine J.live (K := [(22, _), (21, _), (20, _), (4, _), (0, _), (1, _)]) ⟨(lk31 rfl), (lk32 rfl), (lk33 rfl), (lk34 rfl), (lk35 rfl), (lk36 rfl), trivial⟩ ?_
        intro ρ6
        refine J.region ?_
        refine JL.rd (Rd.add (t0 rfl) Ev.c (w64 (by omega) (by omega))) ?_
        refine JL.rd (Rd.move (t0 rfl)) ?_
        refine JL.nil ?_
        refine At.again ((k + 1, if fate (cs.getD k 0) (D.back cs k p.1) p.2 = zb then mdel mk (p.1 : Int) else mput mk (p.1 : Int) (.agg (bv (fate (cs.getD k 0) (D.back cs k p.1) p.2)).toArray))) ?_ ?_ ⟨lk0.trans (by first | with_reducible rfl | (congr 1; omega) | (simp; done) | (simp [*]; done)), trivial⟩ ⟨(lk3 rfl), (lk4 rfl), (lk5 rfl), (lk6 rfl), (lk7 rfl), trivial⟩ (fun _ => Stars.sel (by repeat (first | exact Sel.nil | apply Sel.cons (by repeat (first | exact .here | apply Take.there)))))
        · exact ⟨by show k + 1 ≤ _; omega, by show DurOk D.n (D.back cs (k + 1)) _; rw [Dk.back_succ hp]; exact dur_keep hdk hpl.1 _⟩
        · show D.pend.length - (k + 1) < D.pend.length - k; omega
    · intro hc2
      obtain rfl : k = D.pend.length := by omega
      refine J.exit ?_
      refine At.nextX ?_
      refine At.loopX ?_
      refine At.blkX ?_
      refine At.next ?_
      refine J.seq ?_
      refine J.region ?_
      refine JL.rd (Rd.move (t5 rfl rfl)) ?_
      refine JL.rd (Rd.move (t6 rfl rfl)) ?_
      refine JL.rd (Rd.move (t7 rfl rfl)) ?_
      refine JL.rd (Rd.nil (t2 rfl rfl)) ?_
      refine JL.rd ((by first | exact Rd.fld0 fld_81_2 (t0 rfl) | exact Rd.fld fld_81_2 (t0 rfl))) ?_
      refine JL.ef0 (Ef.st Try.sizeOf79 (t0 rfl) Ev.c rfl (by repeat (first | exact .here | apply Rep.there)) (by repeat (first | exact .own | exact .rd | apply Blk.there)) (by repeat (first | exact .zero | apply SetN.succ)) (by first | rfl | simp) ?_)
      refine JL.rd (Rd.nil (t3 rfl rfl)) ?_
      refine JL.rd ((by first | exact Rd.fld0 fld_81_4 (t0 rfl) | exact Rd.fld fld_81_4 (t0 rfl))) ?_
      refine JL.ef0 (Ef.st Try.sizeOf3 (t0 rfl) Ev.c rfl (by repeat (first | exact .here | apply Rep.there)) (by repeat (first | exact .own | exact .rd | apply Blk.there)) (by repeat (first | exact .zero | apply SetN.succ)) (by first | rfl | simp) ?_)
      refine JL.rd (Rd.nil (t4 rfl rfl)) ?_
      refine JL.rd ((by first | exact Rd.fld0 fld_81_5 (t0 rfl) | exact Rd.fld fld_81_5 (t0 rfl))) ?_
      refine JL.ef0 (Ef.st Try.sizeOf4 (t0 rfl) Ev.c rfl (by repeat (first | exact .here | apply Rep.there)) (by repeat (first | exact .own | exact .rd | apply Blk.there)) (by repeat (first | exact .zero | apply SetN.succ)) (by first | rfl | simp) ?_)
      refine JL.nil ?_
      refine At.next ?_
      refine J.seq ?_
      refine J.region ?_
      refine JL.rd (Rd.assign Ev.c) ?_
      refine JL.nil ?_
      refine At.next ?_
      refine J.ret ?_
      exact At.ret (()) (trivial) (ResV.one rfl (t0 rfl)) (by simp [backC, *]) (fun _ st => by have e : backD D cs = D.restarted cs := (by simp [backD, *]); rw [e]; have s1 := Stars.sel (pre := [pts d (.cells [.int .i64 D.n, .map (some m), .slice none 0 0, .int .i64 D.ops, .int .i64 (-1), .bool false].toArray 81), imap m mk, A]) (by repeat (first | exact Sel.nil | apply Sel.cons (by repeat (first | exact .here | apply Take.there)))) st; exact back_shut hwf hdk s1)
end Go.Proofs.Ytfnoaohbjlnkgaa
