/-
  Walks, printed by mk.py.
-/
import Derived.Test.YtfnoaohbjlnkgaaR6
namespace Go.Proofs.Ytfnoaohbjlnkgaa
attribute [local irreducible] J JL At Rd Ef DNew DCar DRun Then RetQ LoopQ


set_option maxRecDepth 100000 in
set_option maxHeartbeats 400000 in
theorem play_any (b : UInt8) (a : Option Addr) (cap : Nat) (l : List OpV) (hl : l.length ≤ 9223372036854775807) :
    Fn Try.prog 27 [.int .u8 (b.toNat : Int), .slice a l.length cap] [opsIn a l] (X := Nat × Option Addr × Nat × Option Addr × Nat) (fun _ => True) (fun x => .tuple #[.pointer (some ⟨x.1, 0, none⟩), refV x.2.1 x.2.2.1 x.2.2.2.1 x.2.2.2.2 (playD (newD (1 + b.toNat % 8)) l (min l.length 30)), .bool true]) (fun x => [dk x.1 (playD (newD (1 + b.toNat % 8)) l (min l.length 30)), rowR x.2.1 1 (durs (playD (newD (1 + b.toNat % 8)) l (min l.length 30)).n (playD (newD (1 + b.toNat % 8)) l (min l.length 30)).dur), rowR x.2.2.2.1 2 ((playD (newD (1 + b.toNat % 8)) l (min l.length 30)).pend.map wcell), opsIn a l]) := by
  refine Fn.mk' (n := 56) (l := [(0, .int .u8 (b.toNat : Int)), (1, .slice a l.length cap)]) (fn := Try.f27) Try.func27 (by kernel_rfl) rfl rfl (by simp) rfl ?_
  intro h0 w0
  have hbl := b.toNat_lt
  have hnn : (1 : Int) + (b.toNat : Int) % 8 = ((1 + b.toNat % 8 : Nat) : Int) := by omega
  refine J.seq ?_
  refine J.region ?_
  refine JL.rd (Rd.assign Ev.c) ?_
  refine JL.ef (Ef.alloc Try.zeroValue51 rfl ?_)
  intro b1
  refine JL.rd (Rd.assign Ev.c) ?_
  refine JL.nil ?_
  refine At.next ?_
  refine J.seq ?_
  refine J.region ?_
  refine JL.rd (Rd.move (t3 rfl rfl)) ?_
  refine JL.rd (Rd.rem (t0 rfl) Ev.c (by omega) (by omega)) ?_
  refine JL.rd (Rd.conv (t0 rfl) (fun w => ⟨_, Try.runUnderlying5 w⟩) Try.runUnderlying3 (w64 (by omega) (by omega))) ?_
  refine JL.rd (Rd.add Ev.c (t0 rfl) (w64 (by omega) (by omega))) ?_
  rw [hnn]
  refine JL.rd (Rd.assign (t0 rfl)) ?_
  refine JL.nil ?_
  refine At.next ?_
  refine J.seq ?_
  refine J.region ?_
  refine JL.rd (Rd.move (t0 rfl)) ?_
  refine JL.ef (Ef.call (.cons (t0 rfl) .nil) (new_ok ((1 + b.toNat % 8 : Nat) : Int) (by omega) (by omega)) (by repeat (first | exact Sel.nil | apply Sel.cons (by repeat (first | exact .here | apply Take.there)))) ?_)
  rintro d -
  rw [Int.toNat_natCast]
  simp only [List.cons_append, List.nil_append]
  refine JL.rd (Rd.move (t0 rfl)) ?_
  refine JL.rd (Rd.extract (t0 rfl) (by repeat (first | exact .zero | apply Nth.succ))) ?_
  refine JL.rd (Rd.extract (t1 rfl rfl) (by repeat (first | exact .zero | apply Nth.succ))) ?_
  refine JL.rd (Rd.assign (t1 rfl rfl)) ?_
  refine JL.rd (Rd.assign (t1 rfl rfl)) ?_
  refine JL.nil ?_
  refine At.next ?_
  refine J.seq ?_
  refine J.region ?_
  refine JL.rd (Rd.move (t7 rfl rfl)) ?_
  refine JL.ef (Ef.call (.cons (t0 rfl) .nil) (rnew_any (1 + b.toNat % 8) (by omega) (by omega)) (by repeat (first | exact Sel.nil | apply Sel.cons (by repeat (first | exact .here | apply Take.there)))) ?_)
  rintro ⟨x1, y1, x2, y2⟩ -
  simp only [List.cons_append, List.nil_append]
  refine JL.rd (Rd.move (t0 rfl)) ?_
  refine JL.rd (Rd.extract (t0 rfl) (by repeat (first | exact .zero | apply Nth.succ))) ?_
  refine JL.rd (Rd.extract (t1 rfl rfl) (by repeat (first | exact .zero | apply Nth.succ))) ?_
  refine JL.ef0 (Ef.stB Try.sizeOf51 (t18 rfl rfl) (t1 rfl rfl) (by repeat (first | exact .here | apply Rep.there)) (by repeat (first | exact .own | exact .rd | apply Blk.there)) (by first | rfl | assumption | simp_all) (by first | rfl | assumption | simp_all) (by first | exact bv_one _ | exact cons_one rfl (bv_one _) | (simp [Value.oneCell']; done) | (simp [Value.oneCell', str]; done)) (by decide) ?_)
  refine JL.nil ?_
  refine At.next ?_
  refine J.seq ?_
  refine J.region ?_
  refine JL.rd (Rd.move (t5 rfl rfl)) ?_
  refine JL.rd (Rd.eql (t0 rfl) Ev.c) ?_
  refine JL.rd (Rd.move (t0 rfl)) ?_
  refine JL.rdG rfl (EvB (t0 rfl) rfl) rfl (Rd.move (t9 rfl rfl)) ?_
  refine JL.rdG rfl (EvB (t1 rfl rfl) rfl) rfl (Rd.neqNil (t0 rfl) Try.runUnderlying23) ?_
  refine JL.rd (Rd.pickT (EvB (t2 rfl rfl) rfl) (t0 rfl)) ?_
  refine JL.rd (Rd.assign (t0 rfl)) ?_
  refine JL.nil ?_
  refine At.next ?_
  refine J.seq ?_
  refine J.seq ?_
  refine J.live (K := [(6, _), (4, _), (5, _), (1, _)]) ⟨lk0, (lk13 rfl), (lk25 rfl), (lk28 rfl), trivial⟩ ?_
  intro ρ2
  refine J.region ?_
  refine JL.rd (Rd.assign Ev.c) ?_
  refine JL.nil ?_
  refine At.next ?_
  refine J.block ?_
  refine J.loop (X := Nat × Option Addr × Nat × Option Addr × Nat) (fun (x : Nat × Option Addr × Nat × Option Addr × Nat) => [(9, .int .i64 (x.1 : Int)), (6, .bool true)]) (K := [(4, _), (5, _), (1, _)]) (fun x => [dk d (playD (newD (1 + b.toNat % 8)) l x.1), rowR x.2.1 1 (durs (playD (newD (1 + b.toNat % 8)) l x.1).n (playD (newD (1 + b.toNat % 8)) l x.1).dur), rowR x.2.2.2.1 2 ((playD (newD (1 + b.toNat % 8)) l x.1).pend.map wcell), opsIn a l, pts b1 (.cells [Value.slice x.2.1 (playD (newD (1 + b.toNat % 8)) l x.1).n x.2.2.1, .slice x.2.2.2.1 (playD (newD (1 + b.toNat % 8)) l x.1).pend.length x.2.2.2.2, .int .i64 (playD (newD (1 + b.toNat % 8)) l x.1).lim, .bool (playD (newD (1 + b.toNat % 8)) l x.1).down, .int .i64 (playD (newD (1 + b.toNat % 8)) l x.1).ops].toArray 51)]) (fun x => x.1 ≤ l.length ∧ x.1 ≤ 30) (fun x => 30 - x.1) ((0, x1, y1, x2, y2)) ?_ ⟨lk0.trans (by first | with_reducible rfl | (congr 1; omega) | (simp; done) | (simp [*]; done)), (lk1 rfl).trans (by first | with_reducible rfl | (congr 1; omega) | (simp; done) | (simp [*]; done)), trivial⟩ ⟨(lk2 rfl), (lk3 rfl), (lk4 rfl), trivial⟩ (fun _ => Stars.sel (by repeat (first | exact Sel.nil | apply Sel.cons (by repeat (first | exact .here | apply Take.there))))) ?_
  · exact ⟨Nat.zero_le _, Nat.zero_le _⟩
  rintro ⟨k, ra, rb, rc, re⟩ ρ ⟨hk, hk2⟩
  simp only [List.cons_append, List.nil_append]
  dsimp only at hk hk2 ⊢
  obtain ⟨hops, hpend, hn⟩ := playD_ops (newD (1 + b.toNat % 8)) l k
  have ho0 : (newD (1 + b.toNat % 8)).ops = 0 := rfl
  have hp0 : (newD (1 + b.toNat % 8)).pend.length = 0 := rfl
  refine J.seq ?_
  refine J.seq ?_
  refine J.region ?_
  refine JL.rd (Rd.move (t0 rfl)) ?_
  refine JL.rd (Rd.move (t5 rfl rfl)) ?_
  refine JL.rd (Rd.len Try.runUnderlying47 (t0 rfl)) ?_
  refine JL.rd (Rd.lss (t2 rfl rfl) (t0 rfl)) ?_
  refine JL.rd (Rd.move (t0 rfl)) ?_
  refine JL.caseD (t0 rfl) ?_ ?_
  · intro hb3p hb3
    refine JL.rdG rfl (EvB (t0 rfl) hb3) rfl (Rd.move (t5 rfl rfl)) ?_
    refine JL.rdG rfl (EvB (t1 rfl rfl) hb3) rfl (Rd.lss (t0 rfl) Ev.c) ?_
    refine JL.rd (Rd.pickT (EvB (t2 rfl rfl) hb3) (t0 rfl)) ?_
    refine JL.rd (Rd.move (t0 rfl)) ?_
    refine JL.caseD (t0 rfl) ?_ ?_
    · intro hb4p hb4
      refine JL.rdG rfl (EvB (t0 rfl) hb4) rfl (Rd.move (t10 rfl rfl)) ?_
      refine JL.rd (Rd.pickT (EvB (t1 rfl rfl) hb4) (t0 rfl)) ?_
      refine JL.nil ?_
      refine At.next ?_
      refine J.condT (EvB (t0 rfl) rfl) ?_
      refine J.skip ?_
      refine At.next ?_
      refine J.seq ?_
      refine J.block ?_
      obtain ⟨o, hlo⟩ : ∃ o, l[k]? = some o := ⟨_, List.getElem?_eq_getElem (by omega)⟩
      refine J.opGet (by repeat (first | exact .here | apply Take.there)) hlo ?_
      intro hok
      refine J.know (fun h s => dk_wf (Stars.sel (pre := [dk d (playD (newD (1 + b.toNat % 8)) l k)]) (by repeat (first | exact Sel.nil | apply Sel.cons (by repeat (first | exact .here | apply Take.there)))) s)) ?_
      intro hwf
      have hx : (l.map opC)[(k : Int).toNat]? = some (opC o) := by simp [hlo]
      refine J.draw [⟨false, 0, 0⟩, ⟨false, 0, 0⟩, ⟨false, 0, 0⟩, ⟨false, 0, 0⟩, ⟨false, 0, 0⟩, ⟨false, 0, 0⟩, ⟨true, 0, 0⟩, ⟨false, 1, 1⟩, ⟨false, 1, 1⟩, ⟨false, 1, 2⟩, ⟨true, 1, 1⟩, ⟨false, 2, 2⟩] [6, 10] mixed rfl ?_
      refine DRun.at [] [0, 1, 2, 3, 4, 5] rfl rfl ?_ ?_
      · exact .nil
      refine DNew.rd rfl (Rd.move (t13 rfl rfl)) ?_
      refine DNew.rd rfl (Rd.ldB Try.isAgg51 Try.sizeOf51 (t15 rfl rfl) (by repeat (first | exact .own | exact .rd | apply Blk.there)) (by first | rfl | assumption | simp_all)) ?_
      refine DNew.rd rfl (Rd.move (t17 rfl rfl)) ?_
      refine DNew.rd rfl (Rd.move (t14 rfl rfl)) ?_
      refine DNew.rd rfl (Rd.sIdx Try.runUnderlying47 Try.sizeOf58 (t1 rfl rfl) (t0 rfl) (SIn.ops (by repeat (first | exact .here | apply Take.there))) (by simp) (by omega) (by omega)) ?_
      refine DNew.rd rfl (Rd.sLdA Try.isAgg58 Try.sizeOf58 (t0 rfl) (SIn.ops (by repeat (first | exact .here | apply Take.there))) hx) ?_
      refine DNew.nil ?_
      refine DRun.ef rfl (Ef.call (.cons (t5 rfl rfl) (.cons (t4 rfl rfl) (.cons (t0 rfl) .nil))) (do_any d ra rc rb re (playD (newD (1 + b.toNat % 8)) l k) hwf o hok (by omega) (by omega)) (by repeat (first | exact Sel.nil | apply Sel.cons (by repeat (first | exact .here | apply Take.there)))) ?_)
      rintro ⟨z1, w1, z2, w2⟩ -
      simp only [List.cons_append, List.nil_append]
      refine DRun.at [] [7, 8, 9] rfl rfl ?_ ?_
      · exact .nil
      refine DNew.rd rfl (Rd.move (t0 rfl)) ?_
      refine DNew.rd rfl (Rd.extract (t0 rfl) (by repeat (first | exact .zero | apply Nth.succ))) ?_
      refine DNew.rd rfl (Rd.extract (t1 rfl rfl) (by repeat (first | exact .zero | apply Nth.succ))) ?_
      refine DNew.nil ?_
      refine DRun.ef0 rfl (Ef.stB Try.sizeOf51 (t24 rfl rfl) (t1 rfl rfl) (by repeat (first | exact .here | apply Rep.there)) (by repeat (first | exact .own | exact .rd | apply Blk.there)) (by first | rfl | assumption | simp_all) (by first | rfl | assumption | simp_all) (by first | exact bv_one _ | exact cons_one rfl (bv_one _) | (simp [Value.oneCell']; done) | (simp [Value.oneCell', str]; done)) (by decide) ?_)
      refine DRun.end [9] [11] rfl rfl ?_ ?_
      · refine DCar.rd rfl lk0 (Rd.extract (t2 rfl rfl) (by repeat (first | exact .zero | apply Nth.succ))) ?_
        exact .nil
      refine DNew.rd rfl (Rd.assign (t0 rfl)) ?_
      refine DNew.nil ?_
      refine At.blkN ?_
      refine At.next ?_
      refine J.region ?_
      refine JL.rd (Rd.move (t22 rfl rfl)) ?_
      refine JL.rd (Rd.add (t0 rfl) Ev.c (w64 (by omega) (by omega))) ?_
      refine JL.rd (Rd.assign (t0 rfl)) ?_
      refine JL.nil ?_
      rw [← playD_succ hlo]
      refine At.again ((k + 1, z1, w1, z2, w2)) ?_ ?_ ⟨lk0.trans (by first | with_reducible rfl | (congr 1; omega) | (simp; done) | (simp [*]; done)), (lk3 rfl).trans (by first | with_reducible rfl | (congr 1; omega) | (simp; done) | (simp [*]; done)), trivial⟩ ⟨(lk27 rfl), (lk28 rfl), (lk29 rfl), trivial⟩ (fun _ => Stars.sel (by repeat (first | exact Sel.nil | apply Sel.cons (by repeat (first | exact .here | apply Take.there)))))
      · exact ⟨by show k + 1 ≤ l.length; omega, by show k + 1 ≤ 30; omega⟩
      · show 30 - (k + 1) < 30 - k; omega
    · intro hb4p hb4
      refine JL.skG rfl (EvB (t0 rfl) hb4) rfl ?_
      refine JL.rd (Rd.pickF (EvB (t1 rfl rfl) hb4) Ev.c) ?_
      refine JL.nil ?_
      refine At.next ?_
      refine J.condF (t0 rfl) ?_
      refine J.exit ?_
      refine At.nextX ?_
      refine At.loopX ?_
      refine At.blkX ?_
      refine At.next ?_
      refine J.seq ?_
      obtain rfl : k = min l.length 30 := by omega
      refine J.draw [⟨false, 0, 0⟩, ⟨false, 0, 1⟩, ⟨false, 0, 2⟩, ⟨true, 0, 0⟩, ⟨true, 1, 1⟩, ⟨true, 2, 2⟩] [3, 4, 5] mixed rfl ?_
      refine DRun.at [] [0, 1, 2] rfl rfl ?_ ?_
      · exact .nil
      refine DNew.rd rfl (Rd.move (t13 rfl rfl)) ?_
      refine DNew.rd rfl (Rd.ldB Try.isAgg51 Try.sizeOf51 (t15 rfl rfl) (by repeat (first | exact .own | exact .rd | apply Blk.there)) (by first | rfl | assumption | simp_all)) ?_
      refine DNew.rd rfl (Rd.move (t14 rfl rfl)) ?_
      refine DNew.nil ?_
      refine DRun.ef rfl (Rd.ef (Rd.assign (t2 rfl rfl)) ?_)
      refine DRun.at [1, 2] [] rfl rfl ?_ ?_
      · refine DCar.rd rfl (lk2 rfl) (Rd.ldB Try.isAgg51 Try.sizeOf51 (t18 rfl rfl) (by repeat (first | exact .own | exact .rd | apply Blk.there)) (by first | rfl | assumption | simp_all)) ?_
        refine DCar.rd rfl (lk1 rfl) (Rd.move (t16 rfl rfl)) ?_
        exact .nil
      refine DNew.nil ?_
      refine DRun.ef0 rfl (Ef.stB Try.sizeOf51 (t18 rfl rfl) (t2 rfl rfl) (by repeat (first | exact .here | apply Rep.there)) (by repeat (first | exact .own | exact .rd | apply Blk.there)) (by first | rfl | assumption | simp_all) (by first | rfl | assumption | simp_all) (by first | exact bv_one _ | exact cons_one rfl (bv_one _) | (simp [Value.oneCell']; done) | (simp [Value.oneCell', str]; done)) (by decide) ?_)
      refine DRun.at [2] [] rfl rfl ?_ ?_
      · refine DCar.rd rfl (lk1 rfl) (Rd.move (t16 rfl rfl)) ?_
        exact .nil
      refine DNew.nil ?_
      refine DRun.ef rfl (Rd.ef (Rd.assign (t1 rfl rfl)) ?_)
      refine DRun.end [] [] rfl rfl ?_ ?_
      · exact .nil
      refine DNew.nil ?_
      refine At.next ?_
      refine J.ret ?_
      exact At.ret ((d, ra, rb, rc, re)) (trivial) (ResV.many (rs := [.tmp 4, .cell 5 51, .tmp 6]) rfl (.tmp (t1 rfl rfl) (.agg Try.isAgg51 Try.sizeOf51 (t19 rfl rfl) (by repeat (first | exact .own | exact .rd | apply Blk.there)) (by first | rfl | assumption | simp_all) (.tmp (t0 rfl) .nil))) (by simp)) rfl (fun _ => Stars.sel (by repeat (first | exact Sel.nil | apply Sel.cons (by repeat (first | exact .here | apply Take.there)))))
  · intro hb3p hb3
    refine JL.skG rfl (EvB (t0 rfl) hb3) rfl ?_
    refine JL.skG rfl (EvB (t1 rfl rfl) hb3) rfl ?_
    refine JL.rd (Rd.pickF (EvB (t2 rfl rfl) hb3) Ev.c) ?_
    refine JL.rd (Rd.move (t0 rfl)) ?_
    refine JL.skG rfl (t0 rfl) rfl ?_
    refine JL.rd (Rd.pickF (t1 rfl rfl) Ev.c) ?_
    refine JL.nil ?_
    refine At.next ?_
    refine J.condF (t0 rfl) ?_
    refine J.exit ?_
    refine At.nextX ?_
    refine At.loopX ?_
    refine At.blkX ?_
    refine At.next ?_
    refine J.seq ?_
    obtain rfl : k = min l.length 30 := by omega
    refine J.draw [⟨false, 0, 0⟩, ⟨false, 0, 1⟩, ⟨false, 0, 2⟩, ⟨true, 0, 0⟩, ⟨true, 1, 1⟩, ⟨true, 2, 2⟩] [3, 4, 5] mixed rfl ?_
    refine DRun.at [] [0, 1, 2] rfl rfl ?_ ?_
    · exact .nil
    refine DNew.rd rfl (Rd.move (t13 rfl rfl)) ?_
    refine DNew.rd rfl (Rd.ldB Try.isAgg51 Try.sizeOf51 (t15 rfl rfl) (by repeat (first | exact .own | exact .rd | apply Blk.there)) (by first | rfl | assumption | simp_all)) ?_
    refine DNew.rd rfl (Rd.move (t14 rfl rfl)) ?_
    refine DNew.nil ?_
    refine DRun.ef rfl (Rd.ef (Rd.assign (t2 rfl rfl)) ?_)
    refine DRun.at [1, 2] [] rfl rfl ?_ ?_
    · refine DCar.rd rfl (lk2 rfl) (Rd.ldB Try.isAgg51 Try.sizeOf51 (t18 rfl rfl) (by repeat (first | exact .own | exact .rd | apply Blk.there)) (by first | rfl | assumption | simp_all)) ?_
      refine DCar.rd rfl (lk1 rfl) (Rd.move (t16 rfl rfl)) ?_
      exact .nil
    refine DNew.nil ?_
    refine DRun.ef0 rfl (Ef.stB Try.sizeOf51 (t18 rfl rfl) (t2 rfl rfl) (by repeat (first | exact .here | apply Rep.there)) (by repeat (first | exact .own | exact .rd | apply Blk.there)) (by first | rfl | assumption | simp_all) (by first | rfl | assumption | simp_all) (by first | exact bv_one _ | exact cons_one rfl (bv_one _) | (simp [Value.oneCell']; done) | (simp [Value.oneCell', str]; done)) (by decide) ?_)
    refine DRun.at [2] [] rfl rfl ?_ ?_
    · refine DCar.rd rfl (lk1 rfl) (Rd.move (t16 rfl rfl)) ?_
      exact .nil
    refine DNew.nil ?_
    refine DRun.ef rfl (Rd.ef (Rd.assign (t1 rfl rfl)) ?_)
    refine DRun.end [] [] rfl rfl ?_ ?_
    · exact .nil
    refine DNew.nil ?_
    refine At.next ?_
    refine J.ret ?_
    exact At.ret ((d, ra, rb, rc, re)) (trivial) (ResV.many (rs := [.tmp 4, .cell 5 51, .tmp 6]) rfl (.tmp (t1 rfl rfl) (.agg Try.isAgg51 Try.sizeOf51 (t19 rfl rfl) (by repeat (first | exact .own | exact .rd | apply Blk.there)) (by first | rfl | assumption | simp_all) (.tmp (t0 rfl) .nil))) (by simp)) rfl (fun _ => Stars.sel (by repeat (first | exact Sel.nil | apply Sel.cons (by repeat (first | exact .here | apply Take.there)))))
end Go.Proofs.Ytfnoaohbjlnkgaa
