/-
  Walks, printed by mk.py.
-/
import Derived.Test.YtfnoaohbjlnkgaaR7
import Derived.Test.YtfnoaohbjlnkgaaL1
namespace Go.Proofs.Ytfnoaohbjlnkgaa
attribute [local irreducible] J JL At Rd Ef DNew DCar DRun Then RetQ LoopQ


set_option maxRecDepth 100000 in
set_option maxHeartbeats 400000 in
theorem flushed_any (b : UInt8) (a1 a2 ca : Option Addr) (c1 c2 cc : Nat) (l1 l2 : List OpV) (ch : List UInt8) (hl1 : l1.length ≤ 9223372036854775807) (hl2 : l2.length ≤ 9223372036854775807) (hch : ch.length ≤ 9223372036854775807) (hcc : ch.length ≤ cc) :
    Fn Try.prog 6 [.int .u8 (b.toNat : Int), .slice a1 l1.length c1, .slice a2 l2.length c2, .slice ca ch.length cc] [opsIn a1 l1, opsIn a2 l2, rowR ca 1 (b1s ch)] (X := Unit) (fun _ => True) (fun _ => .bool true) (fun _ => []) := by
  refine Fn.mk' (n := 114) (l := [(0, .int .u8 (b.toNat : Int)), (1, .slice a1 l1.length c1), (2, .slice a2 l2.length c2), (3, .slice ca ch.length cc)]) (fn := Try.f6) Try.func6 (by kernel_rfl) rfl rfl (by simp) rfl ?_
  intro h0 w0
  refine J.seq ?_
  refine J.region ?_
  refine JL.rd (Rd.assign Ev.c) ?_
  refine JL.nil ?_
  refine At.next ?_
  refine J.seq ?_
  refine J.seq ?_
  refine J.region ?_
  refine JL.ef (Ef.call .nil (known_any) (by repeat (first | exact Sel.nil | apply Sel.cons (by repeat (first | exact .here | apply Take.there)))) ?_)
  rintro - -
  simp only [List.cons_append, List.nil_append]
  refine JL.rd (Rd.not (EvB (t0 rfl) rfl)) ?_
  refine JL.nil ?_
  refine At.next ?_
  refine J.condF (EvB (t0 rfl) rfl) ?_
  refine J.skip ?_
  refine At.next ?_
  refine J.seq ?_
  refine J.region ?_
  refine JL.rd (Rd.move (t3 rfl rfl)) ?_
  refine JL.rd (Rd.move (t5 rfl rfl)) ?_
  refine JL.ef (Ef.call (.cons (t1 rfl rfl) (.cons (t0 rfl) .nil)) (play_any b a1 c1 l1 hl1) (by repeat (first | exact Sel.nil | apply Sel.cons (by repeat (first | exact .here | apply Take.there)))) ?_)
  rintro ⟨d, p1, q1, p2, q2⟩ -
  simp only [List.cons_append, List.nil_append]
  refine JL.rd (Rd.move (t0 rfl)) ?_
  refine JL.rd (Rd.extract (t0 rfl) (by repeat (first | exact .zero | apply Nth.succ))) ?_
  refine JL.rd (Rd.extract (t1 rfl rfl) (by repeat (first | exact .zero | apply Nth.succ))) ?_
  refine JL.rd (Rd.extract (t2 rfl rfl) (by repeat (first | exact .zero | apply Nth.succ))) ?_
  refine JL.ef (Ef.alloc Try.zeroValue51 rfl ?_)
  intro b1
  refine JL.rd (Rd.assign (t3 rfl rfl)) ?_
  refine JL.ef0 (Ef.stB Try.sizeOf51 (t1 rfl rfl) (t3 rfl rfl) (by repeat (first | exact .here | apply Rep.there)) (by repeat (first | exact .own | exact .rd | apply Blk.there)) (by first | rfl | assumption | simp_all) (by first | rfl | assumption | simp_all) (by first | exact bv_one _ | exact cons_one rfl (bv_one _) | (simp [Value.oneCell']; done) | (simp [Value.oneCell', str]; done)) (by decide) ?_)
  refine JL.rd (Rd.assign (t2 rfl rfl)) ?_
  refine JL.nil ?_
  refine At.next ?_
  refine J.seq ?_
  refine J.seq ?_
  generalize hE : (playD (newD (1 + b.toNat % 8)) l1 (min l1.length 30)) = E
  obtain ⟨hops, hpend, hn⟩ := playD_ops (newD (1 + b.toNat % 8)) l1 (min l1.length 30)
  rw [hE] at hops hpend hn
  have ho0 : (newD (1 + b.toNat % 8)).ops = 0 := rfl
  have hp0 : (newD (1 + b.toNat % 8)).pend.length = 0 := rfl
  have hnn : (newD (1 + b.toNat % 8)).n = 1 + b.toNat % 8 := rfl
  refine J.know (fun h s => dk_wf (Stars.sel (pre := [dk d E]) (by repeat (first | exact Sel.nil | apply Sel.cons (by repeat (first | exact .here | apply Take.there)))) s)) ?_
  intro hwE
  refine J.region ?_
  refine JL.rd (Rd.move (t0 rfl)) ?_
  refine JL.rd (Rd.not (EvB (t0 rfl) rfl)) ?_
  refine JL.rd (Rd.move (t0 rfl)) ?_
  refine JL.rdG rfl (EvB (t0 rfl) rfl) rfl (Rd.move (t4 rfl rfl)) ?_
  refine JL.efG rfl (EvB (t1 rfl rfl) rfl) rfl (Ef.call (.cons (t0 rfl) .nil) (flush_any d E (by omega)) (by repeat (first | exact Sel.nil | apply Sel.cons (by repeat (first | exact .here | apply Take.there)))) ?_)
  rintro - -
  simp only [List.cons_append, List.nil_append]
  refine JL.rdG rfl (EvB (t2 rfl rfl) rfl) rfl (Rd.neq (t0 rfl) Ev.c) ?_
  refine JL.rd (Rd.pickF (EvB (t3 rfl rfl) rfl) (t0 rfl)) ?_
  refine JL.nil ?_
  refine At.next ?_
  refine J.condD (t0 rfl) ?_ ?_
  · intro hc2
    refine J.seq ?_
    refine J.region ?_
    refine JL.rd (Rd.move (t7 rfl rfl)) ?_
    refine JL.rd (Rd.assign (t0 rfl)) ?_
    refine JL.nil ?_
    refine At.next ?_
    refine J.ret ?_
    refine At.nextR ?_
    exact At.ret (()) (trivial) (ResV.one rfl (t0 rfl)) rfl (fun _ => Stars.sel (by repeat (first | exact Sel.nil | apply Sel.cons (by repeat (first | exact .here | apply Take.there)))))
  · intro hc2
    have hfc : flushC E = 0 := by simpa using hc2
    have hdn : E.down = false := by cases h : E.down with | false => rfl | true => simp [flushC, h] at hfc
    have hop : operC E = 0 := by simpa [flushC, hdn] using hfc
    have hfd : flushD E = E.operated.flushed := by simp [flushD, hdn, hop]
    rw [hfd]
    have hoo := operated_ops E
    refine J.skip ?_
    refine At.next ?_
    refine J.seq ?_
    refine J.region ?_
    refine JL.rd (Rd.ldB Try.isAgg51 Try.sizeOf51 (t9 rfl rfl) (by repeat (first | exact .own | exact .rd | apply Blk.there)) (by first | rfl | assumption | simp_all)) ?_
    refine JL.ef (Ef.alloc Try.zeroValue51 rfl ?_)
    intro b3
    refine JL.ef0 (Ef.stB Try.sizeOf51 (t0 rfl) (t1 rfl rfl) (by repeat (first | exact .here | apply Rep.there)) (by repeat (first | exact .own | exact .rd | apply Blk.there)) (by first | rfl | assumption | simp_all) (by first | rfl | assumption | simp_all) (by first | exact bv_one _ | exact cons_one rfl (bv_one _) | (simp [Value.oneCell']; done) | (simp [Value.oneCell', str]; done)) (by decide) ?_)
    refine JL.nil ?_
    refine At.next ?_
    refine J.seq ?_
    refine J.dup (a := p1) (by repeat (first | exact .here | apply Take.there)) ?_
    refine J.dup (a := p2) (by repeat (first | exact .here | apply Take.there)) ?_
    refine J.region ?_
    refine JL.rd (Rd.ldB Try.isAgg51 Try.sizeOf51 (t11 rfl rfl) (by repeat (first | exact .own | exact .rd | apply Blk.there)) (by first | rfl | assumption | simp_all)) ?_
    refine JL.ef (Ef.call (.cons (t0 rfl) .nil) (rflush_any p1 p2 q1 q2 E hwE (by omega)) (by repeat (first | exact Sel.nil | apply Sel.cons (by repeat (first | exact .here | apply Take.there)))) ?_)
    rintro ⟨x1, y1, x2, y2⟩ -
    simp only [List.cons_append, List.nil_append]
    rw [hfd]
    refine JL.rd (Rd.move (t0 rfl)) ?_
    refine JL.rd (Rd.extract (t0 rfl) (by repeat (first | exact .zero | apply Nth.succ))) ?_
    refine JL.rd (Rd.extract (t1 rfl rfl) (by repeat (first | exact .zero | apply Nth.succ))) ?_
    refine JL.ef0 (Ef.stB Try.sizeOf51 (t16 rfl rfl) (t1 rfl rfl) (by repeat (first | exact .here | apply Rep.there)) (by repeat (first | exact .own | exact .rd | apply Blk.there)) (by first | rfl | assumption | simp_all) (by first | rfl | assumption | simp_all) (by first | exact bv_one _ | exact cons_one rfl (bv_one _) | (simp [Value.oneCell']; done) | (simp [Value.oneCell', str]; done)) (by decide) ?_)
    refine JL.nil ?_
    refine At.next ?_
    refine J.seq ?_
    refine J.live (K := [(12, _), (11, _), (9, _), (10, _), (8, _), (2, _), (3, _)]) ⟨(lk5 rfl), (lk14 rfl), (lk15 rfl), (lk16 rfl), (lk26 rfl), (lk29 rfl), (lk30 rfl), trivial⟩ ?_
    intro ρ4
    refine J.region ?_
    refine JL.ef (Ef.mkmap ?_)
    intro m5
    refine JL.rd (Rd.assign (t0 rfl)) ?_
    refine JL.nil ?_
    refine At.next ?_
    refine J.seq ?_
    refine J.seq ?_
    refine J.newMap (m := m5) (by repeat (first | exact .here | apply Take.there)) ?_
    refine J.region ?_
    refine JL.rd (Rd.assign Ev.c) ?_
    refine JL.nil ?_
    refine At.next ?_
    refine J.block ?_
    refine J.loop (X := Nat × Option Addr × Nat × Option Addr × Nat × List (Int × Value)) (fun (x : Nat × Option Addr × Nat × Option Addr × Nat × List (Int × Value)) => [(14, .int .i64 (x.1 : Int)), (11, .bool true)]) (K := [(13, _), (12, _), (9, _), (10, _), (8, _), (2, _), (3, _)]) (fun x => [dk d (playD E.operated.flushed l2 x.1), rowR x.2.1 1 (durs (playD E.operated.flushed l2 x.1).n (playD E.operated.flushed l2 x.1).dur), rowR x.2.2.2.1 2 ((playD E.operated.flushed l2 x.1).pend.map wcell), opsIn a2 l2, pts b1 (.cells [Value.slice x.2.1 (playD E.operated.flushed l2 x.1).n x.2.2.1, .slice x.2.2.2.1 (playD E.operated.flushed l2 x.1).pend.length x.2.2.2.2.1, .int .i64 (playD E.operated.flushed l2 x.1).lim, .bool (playD E.operated.flushed l2 x.1).down, .int .i64 (playD E.operated.flushed l2 x.1).ops].toArray 51), imap m5 x.2.2.2.2.2, rowR p1 1 (durs E.n E.dur), rowR p2 2 (E.pend.map wcell), pts b3 (.cells [Value.slice p1 E.n q1, .slice p2 E.pend.length q2, .int .i64 E.lim, .bool E.down, .int .i64 E.ops].toArray 51), rowR ca 1 (b1s ch)]) (fun x => x.1 ≤ l2.length ∧ x.1 ≤ 30 ∧ Named l2 x.1 x.2.2.2.2.2) (fun x => 30 - x.1) ((0, x1, y1, x2, y2, [])) ?_ ⟨lk0.trans (by first | with_reducible rfl | (congr 1; omega) | (simp; done) | (simp [*]; done)), (lk4 rfl).trans (by first | with_reducible rfl | (congr 1; omega) | (simp; done) | (simp [*]; done)), trivial⟩ ⟨(lk1 rfl), (lk3 rfl), (lk5 rfl), (lk6 rfl), (lk7 rfl), (lk8 rfl), (lk9 rfl), trivial⟩ (fun _ => Stars.sel (by repeat (first | exact Sel.nil | apply Sel.cons (by repeat (first | exact .here | apply Take.there))))) ?_
    · exact ⟨Nat.zero_le _, Nat.zero_le _, Named.nil _⟩
    rintro ⟨k, ra, rb, rc, re, mk⟩ ρ ⟨hk, hk2, hnm⟩
    simp only [List.cons_append, List.nil_append]
    dsimp only at hk hk2 hnm ⊢
    obtain ⟨hops2, hpend2, hn2⟩ := playD_ops E.operated.flushed l2 k
    have ho2 : E.operated.flushed.ops = E.operated.ops := rfl
    have hp2 : E.operated.flushed.pend.length = 0 := rfl
    have hn3 : E.operated.flushed.n = E.n := operated_n E
    refine J.seq ?_
    refine J.seq ?_
    refine J.region ?_
    refine JL.rd (Rd.move (t0 rfl)) ?_
    refine JL.rd (Rd.move (t8 rfl rfl)) ?_
    refine JL.rd (Rd.len Try.runUnderlying47 (t0 rfl)) ?_
    refine JL.rd (Rd.lss (t2 rfl rfl) (t0 rfl)) ?_
    refine JL.rd (Rd.move (t0 rfl)) ?_
    refine JL.caseD (t0 rfl) ?_ ?_
    · intro hb6p hb6
      refine JL.rdG rfl (EvB (t0 rfl) hb6) rfl (Rd.move (t5 rfl rfl)) ?_
      refine JL.rdG rfl (EvB (t1 rfl rfl) hb6) rfl (Rd.lss (t0 rfl) Ev.c) ?_
      refine JL.rd (Rd.pickT (EvB (t2 rfl rfl) hb6) (t0 rfl)) ?_
      refine JL.rd (Rd.move (t0 rfl)) ?_
      refine JL.caseD (t0 rfl) ?_ ?_
      · intro hb7p hb7
        refine JL.rdG rfl (EvB (t0 rfl) hb7) rfl (Rd.move (t10 rfl rfl)) ?_
        refine JL.rd (Rd.pickT (EvB (t1 rfl rfl) hb7) (t0 rfl)) ?_
        refine JL.nil ?_
        refine At.next ?_
        refine J.condT (EvB (t0 rfl) rfl) ?_
        refine J.skip ?_
        refine At.next ?_
        refine J.seq ?_
        refine J.block ?_
        refine J.seq ?_
        obtain ⟨o, hlo⟩ : ∃ o, l2[k]? = some o := ⟨_, List.getElem?_eq_getElem (by omega)⟩
        refine J.opGet (by repeat (first | exact .here | apply Take.there)) hlo ?_
        intro hok
        refine J.know (fun h s => dk_wf (Stars.sel (pre := [dk d (playD E.operated.flushed l2 k)]) (by repeat (first | exact Sel.nil | apply Sel.cons (by repeat (first | exact .here | apply Take.there)))) s)) ?_
        intro hwf
        have hx : (l2.map opC)[(k : Int).toNat]? = some (opC o) := by simp [hlo]
        have hx2 : (k : Int).toNat < (l2.map opC).length := by simp; omega
        refine J.region ?_
        refine JL.rd (Rd.move (t13 rfl rfl)) ?_
        refine JL.rd (Rd.move (t19 rfl rfl)) ?_
        refine JL.rd (Rd.move (t13 rfl rfl)) ?_
        refine JL.rd (Rd.sIdx Try.runUnderlying47 Try.sizeOf58 (t1 rfl rfl) (t0 rfl) (SIn.ops (by repeat (first | exact .here | apply Take.there))) (by simp) (by omega) (by omega)) ?_
        refine JL.rd (Rd.sFld0 fld_58_1 (t0 rfl) (SIn.ops (by repeat (first | exact .here | apply Take.there))) hx2) ?_
        refine JL.rd (Rd.sLd Try.isAgg3 (t0 rfl) (SIn.ops (by repeat (first | exact .here | apply Take.there))) hx rfl) ?_
        refine JL.ef0 (Ef.mapUpdate Try.runUnderlying56 Try.runUnderlying3 (t5 rfl rfl) (t0 rfl) Ev.c (by repeat (first | exact .here | apply Take.there)) ?_)
        refine JL.nil ?_
        refine At.next ?_
        refine J.draw [⟨false, 0, 0⟩, ⟨false, 0, 0⟩, ⟨false, 0, 0⟩, ⟨false, 0, 0⟩, ⟨false, 0, 0⟩, ⟨false, 0, 0⟩, ⟨true, 0, 0⟩, ⟨false, 1, 1⟩, ⟨false, 1, 1⟩, ⟨false, 1, 2⟩, ⟨true, 1, 1⟩, ⟨false, 2, 2⟩] [6, 10] mixed rfl ?_
        refine DRun.at [] [0, 1, 2, 3, 4, 5] rfl rfl ?_ ?_
        · exact .nil
        refine DNew.rd rfl (Rd.move (t21 rfl rfl)) ?_
        refine DNew.rd rfl (Rd.ldB Try.isAgg51 Try.sizeOf51 (t23 rfl rfl) (by repeat (first | exact .own | exact .rd | apply Blk.there)) (by first | rfl | assumption | simp_all)) ?_
        refine DNew.rd rfl (Rd.move (t26 rfl rfl)) ?_
        refine DNew.rd rfl (Rd.move (t20 rfl rfl)) ?_
        refine DNew.rd rfl (Rd.sIdx Try.runUnderlying47 Try.sizeOf58 (t1 rfl rfl) (t0 rfl) (SIn.ops (by repeat (first | exact .here | apply Take.there))) (by simp) (by omega) (by omega)) ?_
        refine DNew.rd rfl (Rd.sLdA Try.isAgg58 Try.sizeOf58 (t0 rfl) (SIn.ops (by repeat (first | exact .here | apply Take.there))) hx) ?_
        refine DNew.nil ?_
        refine DRun.ef rfl (Ef.call (.cons (t5 rfl rfl) (.cons (t4 rfl rfl) (.cons (t0 rfl) .nil))) (do_any d ra rc rb re (playD E.operated.flushed l2 k) hwf o hok (by omega) (by omega)) (by repeat (first | exact Sel.nil | apply Sel.cons (by repeat (first | exact .here | apply Take.there)))) ?_)
        rintro ⟨z1, w1, z2, w2⟩ -
        simp only [List.cons_append, List.nil_append]
        refine DRun.at [] [7, 8, 9] rfl rfl ?_ ?_
        · exact .nil
        refine DNew.rd rfl (Rd.move (t0 rfl)) ?_
        refine DNew.rd rfl (Rd.extract (t0 rfl) (by repeat (first | exact .zero | apply Nth.succ))) ?_
        refine DNew.rd rfl (Rd.extract (t1 rfl rfl) (by repeat (first | exact .zero | apply Nth.succ))) ?_
        refine DNew.nil ?_
        refine DRun.ef0 rfl (Ef.stB Try.sizeOf51 (t32 rfl rfl) (t1 rfl rfl) (by repeat (first | exact .here | apply Rep.there)) (by repeat (first | exact .own | exact .rd | apply Blk.there)) (by first | rfl | assumption | simp_all) (by first | rfl | assumption | simp_all) (by first | exact bv_one _ | exact cons_one rfl (bv_one _) | (simp [Value.oneCell']; done) | (simp [Value.oneCell', str]; done)) (by decide) ?_)
        refine DRun.end [9] [11] rfl rfl ?_ ?_
        · refine DCar.rd rfl lk0 (Rd.extract (t2 rfl rfl) (by repeat (first | exact .zero | apply Nth.succ))) ?_
          exact .nil
        refine DNew.rd rfl (Rd.assign (t0 rfl)) ?_
        refine DNew.nil ?_
        refine At.blkN ?_
        refine At.next ?_
        refine J.live (K := [(11, _), (14, _), (13, _), (12, _), (9, _), (10, _), (8, _), (2, _), (3, _)]) ⟨lk0, (lk28 rfl), (lk30 rfl), (lk31 rfl), (lk32 rfl), (lk33 rfl), (lk34 rfl), (lk35 rfl), (lk36 rfl), trivial⟩ ?_
        intro ρ8
        refine J.region ?_
        refine JL.rd (Rd.move (t1 rfl rfl)) ?_
        refine JL.rd (Rd.add (t0 rfl) Ev.c (w64 (by omega) (by omega))) ?_
        refine JL.rd (Rd.assign (t0 rfl)) ?_
        refine JL.nil ?_
        rw [← playD_succ hlo]
        refine At.again ((k + 1, z1, w1, z2, w2, mput mk o.block (.bool true))) ?_ ?_ ⟨lk0.trans (by first | with_reducible rfl | (congr 1; omega) | (simp; done) | (simp [*]; done)), (lk3 rfl).trans (by first | with_reducible rfl | (congr 1; omega) | (simp; done) | (simp [*]; done)), trivial⟩ ⟨(lk5 rfl), (lk6 rfl), (lk7 rfl), (lk8 rfl), (lk9 rfl), (lk10 rfl), (lk11 rfl), trivial⟩ (fun _ => Stars.sel (by repeat (first | exact Sel.nil | apply Sel.cons (by repeat (first | exact .here | apply Take.there)))))
        · exact ⟨by show k + 1 ≤ l2.length; omega, by show k + 1 ≤ 30; omega, hnm.step hlo⟩
        · show 30 - (k + 1) < 30 - k; omega
      · intro hb7p hb7
        refine JL.skG rfl (EvB (t0 rfl) hb7) rfl ?_
        refine JL.rd (Rd.pickF (EvB (t1 rfl rfl) hb7) Ev.c) ?_
        refine JL.nil ?_
        refine At.next ?_
        refine J.condF (t0 rfl) ?_
        refine J.exit ?_
        refine At.nextX ?_
        refine At.loopX ?_
        refine At.blkX ?_
        refine At.next ?_
        refine J.seq ?_
        refine J.region ?_
        refine JL.rd (Rd.move (t15 rfl rfl)) ?_
        refine JL.ef (Ef.call (.cons (t0 rfl) .nil) (fail_any d (playD E.operated.flushed l2 k)) (by repeat (first | exact Sel.nil | apply Sel.cons (by repeat (first | exact .here | apply Take.there)))) ?_)
        rintro - -
        simp only [List.cons_append, List.nil_append]
        refine JL.nil ?_
        refine At.next ?_
        refine J.seq ?_
        refine J.seq ?_
        refine J.takeR 60 (a := ca) (by repeat (first | exact .here | apply Take.there)) ?_
        refine J.region ?_
        refine JL.rd (Rd.move (t14 rfl rfl)) ?_
        refine JL.rd (Rd.not (EvB (t0 rfl) rfl)) ?_
        refine JL.rd (Rd.move (t0 rfl)) ?_
        refine JL.rdG rfl (EvB (t0 rfl) rfl) rfl (Rd.move (t20 rfl rfl)) ?_
        refine JL.rdG rfl (EvB (t1 rfl rfl) rfl) rfl (Rd.move (t25 rfl rfl)) ?_
        refine JL.rdG rfl (EvB (t2 rfl rfl) rfl) rfl (Rd.move (t26 rfl rfl)) ?_
        refine JL.rdG rfl (EvB (t3 rfl rfl) rfl) rfl (Rd.len Try.runUnderlying28 (t0 rfl)) ?_
        refine JL.rdG rfl (EvB (t4 rfl rfl) rfl) rfl (Rd.min2 (t0 rfl) Ev.c) ?_
        refine JL.rdG rfl (EvB (t5 rfl rfl) rfl) rfl (Rd.slTo Try.runUnderlying28 Try.sizeOf5 (t3 rfl rfl) (t0 rfl) (by omega) (by omega)) ?_
        refine JL.efG rfl (EvB (t6 rfl rfl) rfl) rfl (Ef.call (.cons (t5 rfl rfl) (.cons (t0 rfl) .nil)) (restart_any d (playD E.operated.flushed l2 k).failed ca _ _ (ch.take 60) (by simp; omega) (rowR ca 1 (b1s (ch.take 60))) (fun t => SIn.rowR t)) (by repeat (first | exact Sel.nil | apply Sel.cons (by repeat (first | exact .here | apply Take.there)))) ?_)
        rintro - -
        simp only [List.cons_append, List.nil_append]
        rw [show backD (playD E.operated.flushed l2 k).failed (ch.take 60) = (playD E.operated.flushed l2 k).failed.restarted (ch.take 60) from rfl]
        refine JL.rdG rfl (EvB (t7 rfl rfl) rfl) rfl (Rd.neq (t0 rfl) Ev.c) ?_
        refine JL.rd (Rd.pickF (EvB (t8 rfl rfl) rfl) (t0 rfl)) ?_
        refine JL.nil ?_
        refine At.next ?_
        refine J.condF (EvB (t0 rfl) rfl) ?_
        refine J.skip ?_
        refine At.next ?_
        refine J.seq ?_
        refine J.seq ?_
        refine J.live (K := [(13, _), (12, _), (9, _), (8, _)]) ⟨(lk27 rfl), (lk28 rfl), (lk29 rfl), (lk31 rfl), trivial⟩ ?_
        intro ρ9
        refine J.region ?_
        refine JL.rd (Rd.assign Ev.c) ?_
        refine JL.nil ?_
        refine At.next ?_
        refine J.block ?_
        refine J.loop (X := Nat) (fun (i : Nat) => [(15, .int .i64 (i : Int))]) (K := [(13, _), (12, _), (9, _), (8, _)]) (fun i => [dk d ((playD E.operated.flushed l2 k).failed.restarted (ch.take 60)), imap m5 mk, rowR p1 1 (durs E.n E.dur), rowR p2 2 (E.pend.map wcell), pts b3 (.cells [Value.slice p1 E.n q1, .slice p2 E.pend.length q2, .int .i64 E.lim, .bool E.down, .int .i64 E.ops].toArray 51)]) (fun i => i ≤ E.n) (fun i => E.n - i) (0) ?_ ⟨lk0.trans (by first | with_reducible rfl | (congr 1; omega) | (simp; done) | (simp [*]; done)), trivial⟩ ⟨(lk1 rfl), (lk2 rfl), (lk3 rfl), (lk4 rfl), trivial⟩ (fun _ => Stars.sel (by repeat (first | exact Sel.nil | apply Sel.cons (by repeat (first | exact .here | apply Take.there))))) ?_
        · exact Nat.zero_le _
        intro i ρ hi
        simp only [List.cons_append, List.nil_append]
        refine J.seq ?_
        refine J.seq ?_
        refine J.region ?_
        refine JL.rd (Rd.move (t0 rfl)) ?_
        refine JL.rd ((by first | exact Rd.fld0 fld_51_0 (t3 rfl rfl) | exact Rd.fldz fld_51_0 (t3 rfl rfl))) ?_
        refine JL.rd (Rd.ldN Try.isAgg48 (t0 rfl) (by repeat (first | exact .own | exact .rd | apply Blk.there)) (by repeat (first | exact .zero | apply Nth.succ))) ?_
        refine JL.rd (Rd.len Try.runUnderlying48 (t0 rfl)) ?_
        refine JL.rd (Rd.lss (t3 rfl rfl) (t0 rfl)) ?_
        refine JL.nil ?_
        refine At.next ?_
        refine J.condD (t0 rfl) ?_ ?_
        · intro hc10
          refine J.skip ?_
          refine At.next ?_
          refine J.seq ?_
          refine J.block ?_
          refine J.seq ?_
          have hri : reachC ((playD E.operated.flushed l2 k).failed.restarted (ch.take 60)) i = 0 := by unfold reachC; rw [if_neg (by simp [Dk.restarted]), if_neg]; show ¬ ((i : Int) < 0 ∨ ((playD E.operated.flushed l2 k).n : Int) ≤ i); omega
          refine J.region ?_
          refine JL.rd (Rd.move (t8 rfl rfl)) ?_
          refine JL.rd (Rd.move (t6 rfl rfl)) ?_
          refine JL.ef (Ef.call (.cons (t1 rfl rfl) (.cons (t0 rfl) .nil)) (read_ok d ((playD E.operated.flushed l2 k).failed.restarted (ch.take 60)) i hri) (by repeat (first | exact Sel.nil | apply Sel.cons (by repeat (first | exact .here | apply Take.there)))) ?_)
          rintro ⟨ra2, rc2⟩ -
          simp only [List.cons_append, List.nil_append]
          refine JL.rd (Rd.move (t0 rfl)) ?_
          refine JL.rd (Rd.extract (t0 rfl) (by repeat (first | exact .zero | apply Nth.succ))) ?_
          refine JL.rd (Rd.extract (t1 rfl rfl) (by repeat (first | exact .zero | apply Nth.succ))) ?_
          refine JL.rd (Rd.assign (t1 rfl rfl)) ?_
          refine JL.rd (Rd.assign (t1 rfl rfl)) ?_
          refine JL.nil ?_
          refine At.next ?_
          refine J.seq ?_
          have hvv : (!(mget mk (i : Int)).isSome) = true → ((playD E.operated.flushed l2 k).failed.restarted (ch.take 60)).vis i = E.vis i := fun h => flushed_law E l2 k i (ch.take 60) (hnm.no i (by simpa using h))
          refine J.draw [⟨false, 0, 0⟩, ⟨false, 0, 0⟩, ⟨false, 0, 0⟩, ⟨false, 0, 0⟩, ⟨false, 0, 0⟩, ⟨false, 0, 0⟩, ⟨false, 0, 0⟩, ⟨false, 0, 0⟩, ⟨false, 0, 1⟩, ⟨false, 0, 1⟩, ⟨false, 0, 0⟩, ⟨false, 0, 0⟩, ⟨true, 0, 0⟩, ⟨false, 1, 1⟩, ⟨false, 1, 1⟩, ⟨false, 1, 1⟩] [12] mixed rfl ?_
          refine DRun.at [] [0, 1, 2, 3, 4, 5, 6, 7, 8, 9, 10, 11] rfl rfl ?_ ?_
          · exact .nil
          refine DNew.rd rfl (Rd.move (t0 rfl)) ?_
          refine DNew.rd rfl (Rd.neq (t0 rfl) Ev.c) ?_
          refine DNew.rd rfl (Rd.move (t0 rfl)) ?_
          refine DNew.rdG rfl rfl (EvB (t0 rfl) rfl) rfl (Rd.move (t17 rfl rfl)) ?_
          refine DNew.rdG rfl rfl (EvB (t1 rfl rfl) rfl) rfl (Rd.move (t17 rfl rfl)) ?_
          refine DNew.rdG rfl rfl (EvB (t2 rfl rfl) rfl) rfl (Rd.lookup (v := .bool (mget mk (i : Int)).isSome) Try.runUnderlying56 Try.runUnderlying3 Try.zeroValue4 (t1 rfl rfl) (t0 rfl) (by repeat (first | exact .here | apply Take.there)) (hnm.get i)) ?_
          refine DNew.rdG rfl rfl (EvB (t3 rfl rfl) rfl) rfl (Rd.not (t0 rfl)) ?_
          refine DNew.rdG rfl rfl (EvB (t4 rfl rfl) rfl) rfl (Rd.move (t0 rfl)) ?_
          refine DNew.caseB (t0 rfl) ?_ ?_
          · intro hb11
            refine DNew.rdG rfl rfl (EvB (t0 rfl) hb11) rfl (Rd.move (t9 rfl rfl)) ?_
            refine DNew.rdG rfl rfl (EvB (t1 rfl rfl) hb11) rfl (Rd.byStr Try.underlying28 Try.underlying5 Try.underlying9 (t0 rfl) (by first | (apply SIn.bytes; (repeat (first | exact .here | apply Take.there)); done) | (apply SIn.rowR; (repeat (first | exact .here | apply Take.there)); done) | (apply hA; (repeat (first | exact .here | apply Take.there)); done)) (by first | (simp; done) | (simp; omega) | omega | (simp [*]; done))) ?_
            refine DNew.rdG rfl rfl (EvB (t2 rfl rfl) hb11) rfl (Rd.ldB Try.isAgg51 Try.sizeOf51 (t25 rfl rfl) (by repeat (first | exact .own | exact .rd | apply Blk.there)) (by first | rfl | assumption | simp_all)) ?_
            refine DNew.rdG rfl rfl (EvB (t3 rfl rfl) hb11) rfl (Rd.move (t24 rfl rfl)) ?_
            refine DNew.nil ?_
            refine DRun.efG rfl rfl (EvB (t4 rfl rfl) hb11) rfl (Ef.call (.cons (t1 rfl rfl) (.cons (t0 rfl) .nil)) (rvis_any p1 p2 q1 q2 E hwE i (by omega)) (by repeat (first | exact Sel.nil | apply Sel.cons (by repeat (first | exact .here | apply Take.there)))) ?_)
            rintro - -
            simp only [List.cons_append, List.nil_append]
            refine DRun.end [8, 9] [13, 14, 15] rfl rfl ?_ ?_
            · refine DCar.rdG rfl rfl (EvB (t5 rfl rfl) hb11) rfl (lk4 rfl) (Rd.move (t14 rfl rfl)) ?_
              refine DCar.rdG rfl rfl (EvB (t5 rfl rfl) hb11) rfl (lk3 rfl) (Rd.byStr Try.underlying28 Try.underlying5 Try.underlying9 (t4 rfl rfl) (by first | (apply SIn.bytes; (repeat (first | exact .here | apply Take.there)); done) | (apply SIn.rowR; (repeat (first | exact .here | apply Take.there)); done) | (apply hA; (repeat (first | exact .here | apply Take.there)); done)) (by first | (simp; done) | (simp; omega) | omega | (simp [*]; done))) ?_
              exact .nil
            refine DNew.rdG rfl rfl (EvB (t5 rfl rfl) hb11) rfl (Rd.str_neq (t3 rfl rfl) (t0 rfl)) ?_
            refine DNew.rdG rfl rfl (EvB (t11 rfl rfl) rfl) rfl (Rd.pickT (EvB (t6 rfl rfl) hb11) (t0 rfl)) ?_
            refine DNew.rd rfl (Rd.pickF (EvB (t12 rfl rfl) rfl) (t0 rfl)) ?_
            refine DNew.nil ?_
            refine At.next ?_
            refine J.condF (EvB (t0 rfl) (decide_eq_false (fun h => h (hvv (by assumption))))) ?_
            refine J.skip ?_
            refine At.blkN ?_
            refine At.next ?_
            refine J.live (K := [(15, _), (13, _), (12, _), (9, _), (8, _)]) ⟨(lk29 rfl), (lk30 rfl), (lk31 rfl), (lk32 rfl), (lk33 rfl), trivial⟩ ?_
            intro ρ12
            refine J.region ?_
            refine JL.rd (Rd.move (t0 rfl)) ?_
            refine JL.rd (Rd.add (t0 rfl) Ev.c (w64 (by omega) (by omega))) ?_
            refine JL.rd (Rd.assign (t0 rfl)) ?_
            refine JL.nil ?_
            refine At.again (i + 1) ?_ ?_ ⟨lk0.trans (by first | with_reducible rfl | (congr 1; omega) | (simp; done) | (simp [*]; done)), trivial⟩ ⟨(lk4 rfl), (lk5 rfl), (lk6 rfl), (lk7 rfl), trivial⟩ (fun _ => Stars.sel (by repeat (first | exact Sel.nil | apply Sel.cons (by repeat (first | exact .here | apply Take.there)))))
            · omega
            · omega
          · intro hb11
            refine DNew.skG rfl rfl (EvB (t0 rfl) hb11) rfl ?_
            refine DNew.skG rfl rfl (EvB (t1 rfl rfl) hb11) rfl ?_
            refine DNew.skG rfl rfl (EvB (t2 rfl rfl) hb11) rfl ?_
            refine DNew.skG rfl rfl (EvB (t3 rfl rfl) hb11) rfl ?_
            refine DNew.nil ?_
            refine DRun.skG rfl rfl (EvB (t4 rfl rfl) hb11) rfl ?_
            refine DRun.end [8, 9] [13, 14, 15] rfl rfl ?_ ?_
            · refine DCar.skG rfl rfl (EvB (t5 rfl rfl) hb11) rfl (lk4 rfl) ?_
              refine DCar.skG rfl rfl (EvB (t5 rfl rfl) hb11) rfl (lk3 rfl) ?_
              exact .nil
            refine DNew.skG rfl rfl (EvB (t5 rfl rfl) hb11) rfl ?_
            refine DNew.rdG rfl rfl (EvB (t11 rfl rfl) rfl) rfl (Rd.pickF (EvB (t6 rfl rfl) hb11) Ev.c) ?_
            refine DNew.rd rfl (Rd.pickF (EvB (t12 rfl rfl) rfl) (t0 rfl)) ?_
            refine DNew.nil ?_
            refine At.next ?_
            refine J.condF (t0 rfl) ?_
            refine J.skip ?_
            refine At.blkN ?_
            refine At.next ?_
            refine J.live (K := [(15, _), (13, _), (12, _), (9, _), (8, _)]) ⟨(lk29 rfl), (lk30 rfl), (lk31 rfl), (lk32 rfl), (lk33 rfl), trivial⟩ ?_
            intro ρ13
            refine J.region ?_
            refine JL.rd (Rd.move (t0 rfl)) ?_
            refine JL.rd (Rd.add (t0 rfl) Ev.c (w64 (by omega) (by omega))) ?_
            refine JL.rd (Rd.assign (t0 rfl)) ?_
            refine JL.nil ?_
            refine At.again (i + 1) ?_ ?_ ⟨lk0.trans (by first | with_reducible rfl | (congr 1; omega) | (simp; done) | (simp [*]; done)), trivial⟩ ⟨(lk4 rfl), (lk5 rfl), (lk6 rfl), (lk7 rfl), trivial⟩ (fun _ => Stars.sel (by repeat (first | exact Sel.nil | apply Sel.cons (by repeat (first | exact .here | apply Take.there)))))
            · omega
            · omega
        · intro hc10
          refine J.exit ?_
          refine At.nextX ?_
          refine At.loopX ?_
          refine At.blkX ?_
          refine At.next ?_
          refine J.seq ?_
          refine J.region ?_
          refine JL.rd (Rd.assign Ev.c) ?_
          refine JL.nil ?_
          refine At.next ?_
          refine J.ret ?_
          exact At.ret (()) (trivial) (ResV.one rfl (t0 rfl)) rfl (fun _ => Stars.sel (by repeat (first | exact Sel.nil | apply Sel.cons (by repeat (first | exact .here | apply Take.there)))))
    · intro hb6p hb6
      refine JL.skG rfl (EvB (t0 rfl) hb6) rfl ?_
      refine JL.skG rfl (EvB (t1 rfl rfl) hb6) rfl ?_
      refine JL.rd (Rd.pickF (EvB (t2 rfl rfl) hb6) Ev.c) ?_
      refine JL.rd (Rd.move (t0 rfl)) ?_
      refine JL.skG rfl (t0 rfl) rfl ?_
      refine JL.rd (Rd.pickF (t1 rfl rfl) Ev.c) ?_
      refine JL.nil ?_
      refine At.next ?_
      refine J.condF (t0 rfl) ?_
      refine J.exit ?_
      refine At.nextX ?_
      refine At.loopX ?_
      refine At.blkX ?_
      refine At.next ?_
      refine J.seq ?_
      refine J.region ?_
      refine JL.rd (Rd.move (t15 rfl rfl)) ?_
      refine JL.ef (Ef.call (.cons (t0 rfl) .nil) (fail_any d (playD E.operated.flushed l2 k)) (by repeat (first | exact Sel.nil | apply Sel.cons (by repeat (first | exact .here | apply Take.there)))) ?_)
      rintro - -
      simp only [List.cons_append, List.nil_append]
      refine JL.nil ?_
      refine At.next ?_
      refine J.seq ?_
      refine J.seq ?_
      refine J.takeR 60 (a := ca) (by repeat (first | exact .here | apply Take.there)) ?_
      refine J.region ?_
      refine JL.rd (Rd.move (t14 rfl rfl)) ?_
      refine JL.rd (Rd.not (EvB (t0 rfl) rfl)) ?_
      refine JL.rd (Rd.move (t0 rfl)) ?_
      refine JL.rdG rfl (EvB (t0 rfl) rfl) rfl (Rd.move (t20 rfl rfl)) ?_
      refine JL.rdG rfl (EvB (t1 rfl rfl) rfl) rfl (Rd.move (t25 rfl rfl)) ?_
      refine JL.rdG rfl (EvB (t2 rfl rfl) rfl) rfl (Rd.move (t26 rfl rfl)) ?_
      refine JL.rdG rfl (EvB (t3 rfl rfl) rfl) rfl (Rd.len Try.runUnderlying28 (t0 rfl)) ?_
      refine JL.rdG rfl (EvB (t4 rfl rfl) rfl) rfl (Rd.min2 (t0 rfl) Ev.c) ?_
      refine JL.rdG rfl (EvB (t5 rfl rfl) rfl) rfl (Rd.slTo Try.runUnderlying28 Try.sizeOf5 (t3 rfl rfl) (t0 rfl) (by omega) (by omega)) ?_
      refine JL.efG rfl (EvB (t6 rfl rfl) rfl) rfl (Ef.call (.cons (t5 rfl rfl) (.cons (t0 rfl) .nil)) (restart_any d (playD E.operated.flushed l2 k).failed ca _ _ (ch.take 60) (by simp; omega) (rowR ca 1 (b1s (ch.take 60))) (fun t => SIn.rowR t)) (by repeat (first | exact Sel.nil | apply Sel.cons (by repeat (first | exact .here | apply Take.there)))) ?_)
      rintro - -
      simp only [List.cons_append, List.nil_append]
      rw [show backD (playD E.operated.flushed l2 k).failed (ch.take 60) = (playD E.operated.flushed l2 k).failed.restarted (ch.take 60) from rfl]
      refine JL.rdG rfl (EvB (t7 rfl rfl) rfl) rfl (Rd.neq (t0 rfl) Ev.c) ?_
      refine JL.rd (Rd.pickF (EvB (t8 rfl rfl) rfl) (t0 rfl)) ?_
      refine JL.nil ?_
      refine At.next ?_
      refine J.condF (EvB (t0 rfl) rfl) ?_
      refine J.skip ?_
      refine At.next ?_
      refine J.seq ?_
      refine J.seq ?_
      refine J.live (K := [(13, _), (12, _), (9, _), (8, _)]) ⟨(lk27 rfl), (lk28 rfl), (lk29 rfl), (lk31 rfl), trivial⟩ ?_
      intro ρ14
      refine J.region ?_
      refine JL.rd (Rd.assign Ev.c) ?_
      refine JL.nil ?_
      refine At.next ?_
      refine J.block ?_
      refine J.loop (X := Nat) (fun (i : Nat) => [(15, .int .i64 (i : Int))]) (K := [(13, _), (12, _), (9, _), (8, _)]) (fun i => [dk d ((playD E.operated.flushed l2 k).failed.restarted (ch.take 60)), imap m5 mk, rowR p1 1 (durs E.n E.dur), rowR p2 2 (E.pend.map wcell), pts b3 (.cells [Value.slice p1 E.n q1, .slice p2 E.pend.length q2, .int .i64 E.lim, .bool E.down, .int .i64 E.ops].toArray 51)]) (fun i => i ≤ E.n) (fun i => E.n - i) (0) ?_ ⟨lk0.trans (by first | with_reducible rfl | (congr 1; omega) | (simp; done) | (simp [*]; done)), trivial⟩ ⟨(lk1 rfl), (lk2 rfl), (lk3 rfl), (lk4 rfl), trivial⟩ (fun _ => Stars.sel (by repeat (first | exact Sel.nil | apply Sel.cons (by repeat (first | exact .here | apply Take.there))))) ?_
      · exact Nat.zero_le _
      intro i ρ hi
      simp only [List.cons_append, List.nil_append]
      refine J.seq ?_
      refine J.seq ?_
      refine J.region ?_
      refine JL.rd (Rd.move (t0 rfl)) ?_
      refine JL.rd ((by first | exact Rd.fld0 fld_51_0 (t3 rfl rfl) | exact Rd.fldz fld_51_0 (t3 rfl rfl))) ?_
      refine JL.rd (Rd.ldN Try.isAgg48 (t0 rfl) (by repeat (first | exact .own | exact .rd | apply Blk.there)) (by repeat (first | exact .zero | apply Nth.succ))) ?_
      refine JL.rd (Rd.len Try.runUnderlying48 (t0 rfl)) ?_
      refine JL.rd (Rd.lss (t3 rfl rfl) (t0 rfl)) ?_
      refine JL.nil ?_
      refine At.next ?_
      refine J.condD (t0 rfl) ?_ ?_
      · intro hc15
        refine J.skip ?_
        refine At.next ?_
        refine J.seq ?_
        refine J.block ?_
        refine J.seq ?_
        have hri : reachC ((playD E.operated.flushed l2 k).failed.restarted (ch.take 60)) i = 0 := by unfold reachC; rw [if_neg (by simp [Dk.restarted]), if_neg]; show ¬ ((i : Int) < 0 ∨ ((playD E.operated.flushed l2 k).n : Int) ≤ i); omega
        refine J.region ?_
        refine JL.rd (Rd.move (t8 rfl rfl)) ?_
        refine JL.rd (Rd.move (t6 rfl rfl)) ?_
        refine JL.ef (Ef.call (.cons (t1 rfl rfl) (.cons (t0 rfl) .nil)) (read_ok d ((playD E.operated.flushed l2 k).failed.restarted (ch.take 60)) i hri) (by repeat (first | exact Sel.nil | apply Sel.cons (by repeat (first | exact .here | apply Take.there)))) ?_)
        rintro ⟨ra2, rc2⟩ -
        simp only [List.cons_append, List.nil_append]
        refine JL.rd (Rd.move (t0 rfl)) ?_
        refine JL.rd (Rd.extract (t0 rfl) (by repeat (first | exact .zero | apply Nth.succ))) ?_
        refine JL.rd (Rd.extract (t1 rfl rfl) (by repeat (first | exact .zero | apply Nth.succ))) ?_
        refine JL.rd (Rd.assign (t1 rfl rfl)) ?_
        refine JL.rd (Rd.assign (t1 rfl rfl)) ?_
        refine JL.nil ?_
        refine At.next ?_
        refine J.seq ?_
        have hvv : (!(mget mk (i : Int)).isSome) = true → ((playD E.operated.flushed l2 k).failed.restarted (ch.take 60)).vis i = E.vis i := fun h => flushed_law E l2 k i (ch.take 60) (hnm.no i (by simpa using h))
        refine J.draw [⟨false, 0, 0⟩, ⟨false, 0, 0⟩, ⟨false, 0, 0⟩, ⟨false, 0, 0⟩, ⟨false, 0, 0⟩, ⟨false, 0, 0⟩, ⟨false, 0, 0⟩, ⟨false, 0, 0⟩, ⟨false, 0, 1⟩, ⟨false, 0, 1⟩, ⟨false, 0, 0⟩, ⟨false, 0, 0⟩, ⟨true, 0, 0⟩, ⟨false, 1, 1⟩, ⟨false, 1, 1⟩, ⟨false, 1, 1⟩] [12] mixed rfl ?_
        refine DRun.at [] [0, 1, 2, 3, 4, 5, 6, 7, 8, 9, 10, 11] rfl rfl ?_ ?_
        · exact .nil
        refine DNew.rd rfl (Rd.move (t0 rfl)) ?_
        refine DNew.rd rfl (Rd.neq (t0 rfl) Ev.c) ?_
        refine DNew.rd rfl (Rd.move (t0 rfl)) ?_
        refine DNew.rdG rfl rfl (EvB (t0 rfl) rfl) rfl (Rd.move (t17 rfl rfl)) ?_
        refine DNew.rdG rfl rfl (EvB (t1 rfl rfl) rfl) rfl (Rd.move (t17 rfl rfl)) ?_
        refine DNew.rdG rfl rfl (EvB (t2 rfl rfl) rfl) rfl (Rd.lookup (v := .bool (mget mk (i : Int)).isSome) Try.runUnderlying56 Try.runUnderlying3 Try.zeroValue4 (t1 rfl rfl) (t0 rfl) (by repeat (first | exact .here | apply Take.there)) (hnm.get i)) ?_
        refine DNew.rdG rfl rfl (EvB (t3 rfl rfl) rfl) rfl (Rd.not (t0 rfl)) ?_
        refine DNew.rdG rfl rfl (EvB (t4 rfl rfl) rfl) rfl (Rd.move (t0 rfl)) ?_
        refine DNew.caseB (t0 rfl) ?_ ?_
        · intro hb16
          refine DNew.rdG rfl rfl (EvB (t0 rfl) hb16) rfl (Rd.move (t9 rfl rfl)) ?_
          refine DNew.rdG rfl rfl (EvB (t1 rfl rfl) hb16) rfl (Rd.byStr Try.underlying28 Try.underlying5 Try.underlying9 (t0 rfl) (by first | (apply SIn.bytes; (repeat (first | exact .here | apply Take.there)); done) | (apply SIn.rowR; (repeat (first | exact .here | apply Take.there)); done) | (apply hA; (repeat (first | exact .here | apply Take.there)); done)) (by first | (simp; done) | (simp; omega) | omega | (simp [*]; done))) ?_
          refine DNew.rdG rfl rfl (EvB (t2 rfl rfl) hb16) rfl (Rd.ldB Try.isAgg51 Try.sizeOf51 (t25 rfl rfl) (by repeat (first | exact .own | exact .rd | apply Blk.there)) (by first | rfl | assumption | simp_all)) ?_
          refine DNew.rdG rfl rfl (EvB (t3 rfl rfl) hb16) rfl (Rd.move (t24 rfl rfl)) ?_
          refine DNew.nil ?_
          refine DRun.efG rfl rfl (EvB (t4 rfl rfl) hb16) rfl (Ef.call (.cons (t1 rfl rfl) (.cons (t0 rfl) .nil)) (rvis_any p1 p2 q1 q2 E hwE i (by omega)) (by repeat (first | exact Sel.nil | apply Sel.cons (by repeat (first | exact .here | apply Take.there)))) ?_)
          rintro - -
          simp only [List.cons_append, List.nil_append]
          refine DRun.end [8, 9] [13, 14, 15] rfl rfl ?_ ?_
          · refine DCar.rdG rfl rfl (EvB (t5 rfl rfl) hb16) rfl (lk4 rfl) (Rd.move (t14 rfl rfl)) ?_
            refine DCar.rdG rfl rfl (EvB (t5 rfl rfl) hb16) rfl (lk3 rfl) (Rd.byStr Try.underlying28 Try.underlying5 Try.underlying9 (t4 rfl rfl) (by first | (apply SIn.bytes; (repeat (first | exact .here | apply Take.there)); done) | (apply SIn.rowR; (repeat (first | exact .here | apply Take.there)); done) | (apply hA; (repeat (first | exact .here | apply Take.there)); done)) (by first | (simp; done) | (simp; omega) | omega | (simp [*]; done))) ?_
            exact .nil
          refine DNew.rdG rfl rfl (EvB (t5 rfl rfl) hb16) rfl (Rd.str_neq (t3 rfl rfl) (t0 rfl)) ?_
          refine DNew.rdG rfl rfl (EvB (t11 rfl rfl) rfl) rfl (Rd.pickT (EvB (t6 rfl rfl) hb16) (t0 rfl)) ?_
          refine DNew.rd rfl (Rd.pickF (EvB (t12 rfl rfl) rfl) (t0 rfl)) ?_
          refine DNew.nil ?_
          refine At.next ?_
          refine J.condF (EvB (t0 rfl) (decide_eq_false (fun h => h (hvv (by assumption))))) ?_
          refine J.skip ?_
          refine At.blkN ?_
          refine At.next ?_
          refine J.live (K := [(15, _), (13, _), (12, _), (9, _), (8, _)]) ⟨(lk29 rfl), (lk30 rfl), (lk31 rfl), (lk32 rfl), (lk33 rfl), trivial⟩ ?_
          intro ρ17
          refine J.region ?_
          refine JL.rd (Rd.move (t0 rfl)) ?_
          refine JL.rd (Rd.add (t0 rfl) Ev.c (w64 (by omega) (by omega))) ?_
          refine JL.rd (Rd.assign (t0 rfl)) ?_
          refine JL.nil ?_
          refine At.again (i + 1) ?_ ?_ ⟨lk0.trans (by first | with_reducible rfl | (congr 1; omega) | (simp; done) | (simp [*]; done)), trivial⟩ ⟨(lk4 rfl), (lk5 rfl), (lk6 rfl), (lk7 rfl), trivial⟩ (fun _ => Stars.sel (by repeat (first | exact Sel.nil | apply Sel.cons (by repeat (first | exact .here | apply Take.there)))))
          · omega
          · omega
        · intro hb16
          refine DNew.skG rfl rfl (EvB (t0 rfl) hb16) rfl ?_
          refine DNew.skG rfl rfl (EvB (t1 rfl rfl) hb16) rfl ?_
          refine DNew.skG rfl rfl (EvB (t2 rfl rfl) hb16) rfl ?_
          refine DNew.skG rfl rfl (EvB (t3 rfl rfl) hb16) rfl ?_
          refine DNew.nil ?_
          refine DRun.skG rfl rfl (EvB (t4 rfl rfl) hb16) rfl ?_
          refine DRun.end [8, 9] [13, 14, 15] rfl rfl ?_ ?_
          · refine DCar.skG rfl rfl (EvB (t5 rfl rfl) hb16) rfl (lk4 rfl) ?_
            refine DCar.skG rfl rfl (EvB (t5 rfl rfl) hb16) rfl (lk3 rfl) ?_
            exact .nil
          refine DNew.skG rfl rfl (EvB (t5 rfl rfl) hb16) rfl ?_
          refine DNew.rdG rfl rfl (EvB (t11 rfl rfl) rfl) rfl (Rd.pickF (EvB (t6 rfl rfl) hb16) Ev.c) ?_
          refine DNew.rd rfl (Rd.pickF (EvB (t12 rfl rfl) rfl) (t0 rfl)) ?_
          refine DNew.nil ?_
          refine At.next ?_
          refine J.condF (t0 rfl) ?_
          refine J.skip ?_
          refine At.blkN ?_
          refine At.next ?_
          refine J.live (K := [(15, _), (13, _), (12, _), (9, _), (8, _)]) ⟨(lk29 rfl), (lk30 rfl), (lk31 rfl), (lk32 rfl), (lk33 rfl), trivial⟩ ?_
          intro ρ18
          refine J.region ?_
          refine JL.rd (Rd.move (t0 rfl)) ?_
          refine JL.rd (Rd.add (t0 rfl) Ev.c (w64 (by omega) (by omega))) ?_
          refine JL.rd (Rd.assign (t0 rfl)) ?_
          refine JL.nil ?_
          refine At.again (i + 1) ?_ ?_ ⟨lk0.trans (by first | with_reducible rfl | (congr 1; omega) | (simp; done) | (simp [*]; done)), trivial⟩ ⟨(lk4 rfl), (lk5 rfl), (lk6 rfl), (lk7 rfl), trivial⟩ (fun _ => Stars.sel (by repeat (first | exact Sel.nil | apply Sel.cons (by repeat (first | exact .here | apply Take.there)))))
          · omega
          · omega
      · intro hc15
        refine J.exit ?_
        refine At.nextX ?_
        refine At.loopX ?_
        refine At.blkX ?_
        refine At.next ?_
        refine J.seq ?_
        refine J.region ?_
        refine JL.rd (Rd.assign Ev.c) ?_
        refine JL.nil ?_
        refine At.next ?_
        refine J.ret ?_
        exact At.ret (()) (trivial) (ResV.one rfl (t0 rfl)) rfl (fun _ => Stars.sel (by repeat (first | exact Sel.nil | apply Sel.cons (by repeat (first | exact .here | apply Take.there)))))
end Go.Proofs.Ytfnoaohbjlnkgaa
