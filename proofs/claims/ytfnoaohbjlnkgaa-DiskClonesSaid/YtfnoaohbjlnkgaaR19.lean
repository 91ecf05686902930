/-
  Walks, printed by mk.py.
-/
import Derived.Test.YtfnoaohbjlnkgaaR18
import Derived.Test.YtfnoaohbjlnkgaaR15
namespace Go.Proofs.Ytfnoaohbjlnkgaa
attribute [local irreducible] J JL At Rd Ef DNew DCar DRun Then RetQ LoopQ


def e2 : Dk := (newD 2).operated.wrote 1 (full 1)
theorem write_e2 (d : Nat) (a : Option Addr) (n cap : Nat) (hn : (full 1).length = n) (h5 : n = 512) :
    Fn Try.prog 14 [.pointer (some ⟨d, 0, none⟩), .int .i64 1, .slice a n cap] [dk d (newD 2), bytesA a cap (full 1)] (X := Unit) (fun _ => True) (fun _ => .int .i64 0) (fun _ => [dk d e2, bytesA a cap (full 1)]) :=
  write_ok d (newD 2) 1 a n cap (full 1) hn h5 rfl rfl (by decide) (by decide)
theorem bytesL_one {p : Nat × List UInt8} {x : Option Addr × Nat} {l : List Assn} {h : Frag} (s : Stars (bytesL [p] [x] :: l) h) : Stars (bytesA x.1 x.2 p.2 :: l) h := by
  obtain ⟨h1, h2, a, b, c, rfl⟩ := s
  unfold bytesL at a
  have s2 : Stars ([bytesA x.1 x.2 p.2] ++ l) (jn h1 h2) := Stars.append.2 ⟨h1, h2, a, b, c, rfl⟩
  exact s2
theorem J.bytesL1 {P : Program} {C : Cx} {Q : Exit → Act → World → Prop} {ρ : Env} {hs hs1 : List Assn} {c : Code} {p : Nat × List UInt8} {x : Option Addr × Nat} (t : Take (bytesL [p] [x]) hs hs1) (k : J P C c Q ρ (bytesA x.1 x.2 p.2 :: hs1)) : J P C c Q ρ hs :=
  J.weak (fun _ s => bytesL_one (Stars.perm t.perm s)) k
theorem e2_vis : e2.vis 1 = full 1 := rfl
theorem e2_pend : e2.pend = [(1, full 1)] := rfl
theorem e2_len : e2.pend.length = 1 := rfl

set_option maxRecDepth 100000 in
set_option maxHeartbeats 400000 in
theorem clones_any (b : UInt8) (a1 a2 : Option Addr) (c1 c2 : Nat) (l1 l2 : List OpV) (hl1 : l1.length ≤ 9223372036854775807) (hl2 : l2.length ≤ 9223372036854775807) :
    Fn Try.prog 10 [.int .u8 (b.toNat : Int), .slice a1 l1.length c1, .slice a2 l2.length c2] [opsIn a1 l1, opsIn a2 l2] (X := Unit) (fun _ => True) (fun _ => .bool true) (fun _ => []) := by
  refine Fn.mk' (n := 127) (l := [(0, .int .u8 (b.toNat : Int)), (1, .slice a1 l1.length c1), (2, .slice a2 l2.length c2)]) (fn := Try.f10) Try.func10 (by kernel_rfl) rfl rfl (by simp) rfl ?_
  intro h0 w0
  have hfl : (full 1).length = 512 := full_length 1
  refine J.seq ?_
  refine J.region ?_
  refine JL.rd (Rd.assign Ev.c) ?_
  refine JL.nil ?_
  refine At.next ?_
  refine J.seq ?_
  refine J.seq ?_
  refine J.region ?_
  refine JL.ef (Ef.call .nil (known_any) (by repeat (first | exact Sel.nil | apply Sel.cons (by repeat (first | exact .here | apply Take.there)))) ?_)
  rintro - -
  simp only [List.cons_append, List.nil_append]
  refine JL.rd (Rd.not (EvB (t0 rfl) rfl)) ?_
  refine JL.nil ?_
  refine At.next ?_
  refine J.condF (EvB (t0 rfl) rfl) ?_
  refine J.skip ?_
  refine At.next ?_
  refine J.seq ?_
  refine J.region ?_
  refine JL.rd (Rd.move (t3 rfl rfl)) ?_
  refine JL.rd (Rd.move (t5 rfl rfl)) ?_
  refine JL.ef (Ef.call (.cons (t1 rfl rfl) (.cons (t0 rfl) .nil)) (play_any b a1 c1 l1 hl1) (by repeat (first | exact Sel.nil | apply Sel.cons (by repeat (first | exact .here | apply Take.there)))) ?_)
  rintro ⟨d, p1, q1, p2, q2⟩ -
  simp only [List.cons_append, List.nil_append]
  refine JL.rd (Rd.move (t0 rfl)) ?_
  refine JL.rd (Rd.extract (t0 rfl) (by repeat (first | exact .zero | apply Nth.succ))) ?_
  refine JL.rd (Rd.extract (t1 rfl rfl) (by repeat (first | exact .zero | apply Nth.succ))) ?_
  refine JL.rd (Rd.extract (t2 rfl rfl) (by repeat (first | exact .zero | apply Nth.succ))) ?_
  refine JL.ef (Ef.alloc Try.zeroValue51 rfl ?_)
  intro b1
  refine JL.rd (Rd.assign (t3 rfl rfl)) ?_
  refine JL.ef0 (Ef.stB Try.sizeOf51 (t1 rfl rfl) (t3 rfl rfl) (by repeat (first | exact .here | apply Rep.there)) (by repeat (first | exact .own | exact .rd | apply Blk.there)) (by first | rfl | assumption | simp_all) (by first | rfl | assumption | simp_all) (by first | exact bv_one _ | exact cons_one rfl (bv_one _) | (simp [Value.oneCell']; done) | (simp [Value.oneCell', str]; done)) (by decide) ?_)
  refine JL.rd (Rd.assign (t2 rfl rfl)) ?_
  refine JL.nil ?_
  refine At.next ?_
  refine J.seq ?_
  refine J.seq ?_
  generalize hE : (playD (newD (1 + b.toNat % 8)) l1 (min l1.length 30)) = E
  obtain ⟨hops, hpend, hn⟩ := playD_ops (newD (1 + b.toNat % 8)) l1 (min l1.length 30)
  rw [hE] at hops hpend hn
  have ho0 : (newD (1 + b.toNat % 8)).ops = 0 := rfl
  have hp0 : (newD (1 + b.toNat % 8)).pend.length = 0 := rfl
  have hnn : (newD (1 + b.toNat % 8)).n = 1 + b.toNat % 8 := rfl
  refine J.know (fun h s => dk_wf (Stars.sel (pre := [dk d E]) (by repeat (first | exact Sel.nil | apply Sel.cons (by repeat (first | exact .here | apply Take.there)))) s)) ?_
  intro hwE
  refine J.region ?_
  refine JL.rd (Rd.move (t0 rfl)) ?_
  refine JL.rd (Rd.not (EvB (t0 rfl) rfl)) ?_
  refine JL.nil ?_
  refine At.next ?_
  refine J.condF (EvB (t0 rfl) rfl) ?_
  refine J.skip ?_
  refine At.next ?_
  refine J.seq ?_
  refine J.region ?_
  refine JL.rd (Rd.move (t3 rfl rfl)) ?_
  refine JL.ef (Ef.call (.cons (t0 rfl) .nil) (clone_any d E) (by repeat (first | exact Sel.nil | apply Sel.cons (by repeat (first | exact .here | apply Take.there)))) ?_)
  rintro c -
  simp only [List.cons_append, List.nil_append]
  refine JL.rd (Rd.assign (t0 rfl)) ?_
  refine JL.nil ?_
  refine At.next ?_
  refine J.seq ?_
  refine J.dup (a := p1) (by repeat (first | exact .here | apply Take.there)) ?_
  refine J.dup (a := p2) (by repeat (first | exact .here | apply Take.there)) ?_
  refine J.region ?_
  refine JL.rd (Rd.ldB Try.isAgg51 Try.sizeOf51 (t7 rfl rfl) (by repeat (first | exact .own | exact .rd | apply Blk.there)) (by first | rfl | assumption | simp_all)) ?_
  refine JL.ef (Ef.alloc Try.zeroValue51 rfl ?_)
  intro b2
  refine JL.ef0 (Ef.stB Try.sizeOf51 (t0 rfl) (t1 rfl rfl) (by repeat (first | exact .here | apply Rep.there)) (by repeat (first | exact .own | exact .rd | apply Blk.there)) (by first | rfl | assumption | simp_all) (by first | rfl | assumption | simp_all) (by first | exact bv_one _ | exact cons_one rfl (bv_one _) | (simp [Value.oneCell']; done) | (simp [Value.oneCell', str]; done)) (by decide) ?_)
  refine JL.nil ?_
  refine At.next ?_
  refine J.seq ?_
  refine J.seq ?_
  refine J.region ?_
  refine JL.rd (Rd.assign Ev.c) ?_
  refine JL.nil ?_
  refine At.next ?_
  refine J.block ?_
  refine J.loop (X := Nat × Option Addr × Nat × Option Addr × Nat) (fun (x : Nat × Option Addr × Nat × Option Addr × Nat) => [(12, .int .i64 (x.1 : Int)), (9, .bool true)]) (K := [(11, _), (10, _), (7, _), (8, _), (6, _), (2, _)]) (fun x => [dk d E, dk c (playD E l2 x.1), rowR p1 1 (durs E.n E.dur), rowR p2 2 (E.pend.map wcell), pts b1 (.cells [Value.slice p1 E.n q1, .slice p2 E.pend.length q2, .int .i64 E.lim, .bool E.down, .int .i64 E.ops].toArray 51), rowR x.2.1 1 (durs (playD E l2 x.1).n (playD E l2 x.1).dur), rowR x.2.2.2.1 2 ((playD E l2 x.1).pend.map wcell), opsIn a2 l2, pts b2 (.cells [Value.slice x.2.1 (playD E l2 x.1).n x.2.2.1, .slice x.2.2.2.1 (playD E l2 x.1).pend.length x.2.2.2.2, .int .i64 (playD E l2 x.1).lim, .bool (playD E l2 x.1).down, .int .i64 (playD E l2 x.1).ops].toArray 51)]) (fun x => x.1 ≤ l2.length ∧ x.1 ≤ 30) (fun x => 30 - x.1) ((0, p1, q1, p2, q2)) ?_ ⟨lk0.trans (by first | with_reducible rfl | (congr 1; omega) | (simp; done) | (simp [*]; done)), (lk8 rfl).trans (by first | with_reducible rfl | (congr 1; omega) | (simp; done) | (simp [*]; done)), trivial⟩ ⟨(lk1 rfl), (lk3 rfl), (lk9 rfl), (lk10 rfl), (lk20 rfl), (lk23 rfl), trivial⟩ (fun _ => Stars.sel (by repeat (first | exact Sel.nil | apply Sel.cons (by repeat (first | exact .here | apply Take.there))))) ?_
  · exact ⟨Nat.zero_le _, Nat.zero_le _⟩
  rintro ⟨k, ra, rb, rc, re⟩ ρ ⟨hk, hk2⟩
  simp only [List.cons_append, List.nil_append]
  dsimp only at hk hk2 ⊢
  obtain ⟨hops2, hpend2, hn2⟩ := playD_ops E l2 k
  refine J.seq ?_
  refine J.seq ?_
  refine J.region ?_
  refine JL.rd (Rd.move (t0 rfl)) ?_
  refine JL.rd (Rd.move (t8 rfl rfl)) ?_
  refine JL.rd (Rd.len Try.runUnderlying47 (t0 rfl)) ?_
  refine JL.rd (Rd.lss (t2 rfl rfl) (t0 rfl)) ?_
  refine JL.rd (Rd.move (t0 rfl)) ?_
  refine JL.caseD (t0 rfl) ?_ ?_
  · intro hb3p hb3
    refine JL.rdG rfl (EvB (t0 rfl) hb3) rfl (Rd.move (t5 rfl rfl)) ?_
    refine JL.rdG rfl (EvB (t1 rfl rfl) hb3) rfl (Rd.lss (t0 rfl) Ev.c) ?_
    refine JL.rd (Rd.pickT (EvB (t2 rfl rfl) hb3) (t0 rfl)) ?_
    refine JL.rd (Rd.move (t0 rfl)) ?_
    refine JL.caseD (t0 rfl) ?_ ?_
    · intro hb4p hb4
      refine JL.rdG rfl (EvB (t0 rfl) hb4) rfl (Rd.move (t10 rfl rfl)) ?_
      refine JL.rd (Rd.pickT (EvB (t1 rfl rfl) hb4) (t0 rfl)) ?_
      refine JL.nil ?_
      refine At.next ?_
      refine J.condT (EvB (t0 rfl) rfl) ?_
      refine J.skip ?_
      refine At.next ?_
      refine J.seq ?_
      refine J.block ?_
      obtain ⟨o, hlo⟩ : ∃ o, l2[k]? = some o := ⟨_, List.getElem?_eq_getElem (by omega)⟩
      refine J.opGet (by repeat (first | exact .here | apply Take.there)) hlo ?_
      intro hok
      refine J.know (fun h s => dk_wf (Stars.sel (pre := [dk c (playD E l2 k)]) (by repeat (first | exact Sel.nil | apply Sel.cons (by repeat (first | exact .here | apply Take.there)))) s)) ?_
      intro hwf
      have hx : (l2.map opC)[(k : Int).toNat]? = some (opC o) := by simp [hlo]
      refine J.draw [⟨false, 0, 0⟩, ⟨false, 0, 0⟩, ⟨false, 0, 0⟩, ⟨false, 0, 0⟩, ⟨false, 0, 0⟩, ⟨false, 0, 0⟩, ⟨true, 0, 0⟩, ⟨false, 1, 1⟩, ⟨false, 1, 1⟩, ⟨false, 1, 2⟩, ⟨true, 1, 1⟩, ⟨false, 2, 2⟩] [6, 10] mixed rfl ?_
      refine DRun.at [] [0, 1, 2, 3, 4, 5] rfl rfl ?_ ?_
      · exact .nil
      refine DNew.rd rfl (Rd.move (t14 rfl rfl)) ?_
      refine DNew.rd rfl (Rd.ldB Try.isAgg51 Try.sizeOf51 (t14 rfl rfl) (by repeat (first | exact .own | exact .rd | apply Blk.there)) (by first | rfl | assumption | simp_all)) ?_
      refine DNew.rd rfl (Rd.move (t20 rfl rfl)) ?_
      refine DNew.rd rfl (Rd.move (t14 rfl rfl)) ?_
      refine DNew.rd rfl (Rd.sIdx Try.runUnderlying47 Try.sizeOf58 (t1 rfl rfl) (t0 rfl) (SIn.ops (by repeat (first | exact .here | apply Take.there))) (by simp) (by omega) (by omega)) ?_
      refine DNew.rd rfl (Rd.sLdA Try.isAgg58 Try.sizeOf58 (t0 rfl) (SIn.ops (by repeat (first | exact .here | apply Take.there))) hx) ?_
      refine DNew.nil ?_
      refine DRun.ef rfl (Ef.call (.cons (t5 rfl rfl) (.cons (t4 rfl rfl) (.cons (t0 rfl) .nil))) (do_any c ra rc rb re (playD E l2 k) hwf o hok (by omega) (by omega)) (by repeat (first | exact Sel.nil | apply Sel.cons (by repeat (first | exact .here | apply Take.there)))) ?_)
      rintro ⟨z1, w1, z2, w2⟩ -
      simp only [List.cons_append, List.nil_append]
      refine DRun.at [] [7, 8, 9] rfl rfl ?_ ?_
      · exact .nil
      refine DNew.rd rfl (Rd.move (t0 rfl)) ?_
      refine DNew.rd rfl (Rd.extract (t0 rfl) (by repeat (first | exact .zero | apply Nth.succ))) ?_
      refine DNew.rd rfl (Rd.extract (t1 rfl rfl) (by repeat (first | exact .zero | apply Nth.succ))) ?_
      refine DNew.nil ?_
      refine DRun.ef0 rfl (Ef.stB Try.sizeOf51 (t23 rfl rfl) (t1 rfl rfl) (by repeat (first | exact .here | apply Rep.there)) (by repeat (first | exact .own | exact .rd | apply Blk.there)) (by first | rfl | assumption | simp_all) (by first | rfl | assumption | simp_all) (by first | exact bv_one _ | exact cons_one rfl (bv_one _) | (simp [Value.oneCell']; done) | (simp [Value.oneCell', str]; done)) (by decide) ?_)
      refine DRun.end [9] [11] rfl rfl ?_ ?_
      · refine DCar.rd rfl lk0 (Rd.extract (t2 rfl rfl) (by repeat (first | exact .zero | apply Nth.succ))) ?_
        exact .nil
      refine DNew.rd rfl (Rd.assign (t0 rfl)) ?_
      refine DNew.nil ?_
      refine At.blkN ?_
      refine At.next ?_
      refine J.live (K := [(9, _), (12, _), (11, _), (10, _), (7, _), (8, _), (6, _), (2, _)]) ⟨lk0, (lk22 rfl), (lk24 rfl), (lk25 rfl), (lk26 rfl), (lk27 rfl), (lk28 rfl), (lk29 rfl), trivial⟩ ?_
      intro ρ5
      refine J.region ?_
      refine JL.rd (Rd.move (t1 rfl rfl)) ?_
      refine JL.rd (Rd.add (t0 rfl) Ev.c (w64 (by omega) (by omega))) ?_
      refine JL.rd (Rd.assign (t0 rfl)) ?_
      refine JL.nil ?_
      rw [← playD_succ hlo]
      refine At.again ((k + 1, z1, w1, z2, w2)) ?_ ?_ ⟨lk0.trans (by first | with_reducible rfl | (congr 1; omega) | (simp; done) | (simp [*]; done)), (lk3 rfl).trans (by first | with_reducible rfl | (congr 1; omega) | (simp; done) | (simp [*]; done)), trivial⟩ ⟨(lk5 rfl), (lk6 rfl), (lk7 rfl), (lk8 rfl), (lk9 rfl), (lk10 rfl), trivial⟩ (fun _ => Stars.sel (by repeat (first | exact Sel.nil | apply Sel.cons (by repeat (first | exact .here | apply Take.there)))))
      · exact ⟨by show k + 1 ≤ l2.length; omega, by show k + 1 ≤ 30; omega⟩
      · show 30 - (k + 1) < 30 - k; omega
    · intro hb4p hb4
      refine JL.skG rfl (EvB (t0 rfl) hb4) rfl ?_
      refine JL.rd (Rd.pickF (EvB (t1 rfl rfl) hb4) Ev.c) ?_
      refine JL.nil ?_
      refine At.next ?_
      refine J.condF (t0 rfl) ?_
      refine J.exit ?_
      refine At.nextX ?_
      refine At.loopX ?_
      refine At.blkX ?_
      refine At.next ?_
      refine J.seq ?_
      refine J.seq ?_
      refine J.know (fun h s => dk_wf (Stars.sel (pre := [dk c (playD E l2 k)]) (by repeat (first | exact Sel.nil | apply Sel.cons (by repeat (first | exact .here | apply Take.there)))) s)) ?_
      intro hwf2
      refine J.draw [⟨false, 0, 0⟩, ⟨false, 0, 0⟩, ⟨false, 0, 0⟩, ⟨false, 0, 0⟩, ⟨false, 0, 0⟩, ⟨true, 0, 0⟩, ⟨false, 1, 1⟩, ⟨false, 1, 1⟩, ⟨false, 1, 1⟩, ⟨false, 1, 1⟩, ⟨false, 1, 1⟩, ⟨true, 1, 1⟩, ⟨false, 2, 2⟩, ⟨false, 2, 2⟩, ⟨false, 2, 2⟩, ⟨false, 2, 2⟩, ⟨false, 2, 2⟩, ⟨true, 2, 2⟩, ⟨false, 2, 3⟩, ⟨false, 2, 3⟩, ⟨true, 3, 3⟩, ⟨false, 4, 4⟩, ⟨false, 4, 4⟩, ⟨false, 4, 4⟩, ⟨false, 4, 4⟩, ⟨true, 4, 4⟩, ⟨false, 5, 5⟩] [5, 11, 17, 20, 25] mixed rfl ?_
      refine DRun.at [] [0, 1, 2, 3, 4] rfl rfl ?_ ?_
      · exact .nil
      refine DNew.rd rfl (Rd.move (t12 rfl rfl)) ?_
      refine DNew.rd rfl (Rd.not (EvB (t0 rfl) rfl)) ?_
      refine DNew.rd rfl (Rd.move (t0 rfl)) ?_
      refine DNew.rdG rfl rfl (EvB (t0 rfl) rfl) rfl (Rd.move (t18 rfl rfl)) ?_
      refine DNew.rdG rfl rfl (EvB (t1 rfl rfl) rfl) rfl (Rd.ldB Try.isAgg51 Try.sizeOf51 (t20 rfl rfl) (by repeat (first | exact .own | exact .rd | apply Blk.there)) (by first | rfl | assumption | simp_all)) ?_
      refine DNew.nil ?_
      refine DRun.efG rfl rfl (EvB (t2 rfl rfl) rfl) rfl (Ef.call (.cons (t1 rfl rfl) (.cons (t0 rfl) .nil)) (view_any d p1 p2 q1 q2 E hwE) (by repeat (first | exact Sel.nil | apply Sel.cons (by repeat (first | exact .here | apply Take.there)))) ?_)
      rintro - -
      simp only [List.cons_append, List.nil_append]
      refine DRun.at [] [6, 7, 8, 9, 10] rfl rfl ?_ ?_
      · exact .nil
      refine DNew.rdG rfl rfl (EvB (t3 rfl rfl) rfl) rfl (Rd.not (EvB (t0 rfl) rfl)) ?_
      refine DNew.rd rfl (Rd.pickF (EvB (t4 rfl rfl) rfl) (t0 rfl)) ?_
      refine DNew.rd rfl (Rd.move (t0 rfl)) ?_
      refine DNew.rdG rfl rfl (EvB (t0 rfl) rfl) rfl (Rd.move (t23 rfl rfl)) ?_
      refine DNew.rdG rfl rfl (EvB (t1 rfl rfl) rfl) rfl (Rd.ldB Try.isAgg51 Try.sizeOf51 (t23 rfl rfl) (by repeat (first | exact .own | exact .rd | apply Blk.there)) (by first | rfl | assumption | simp_all)) ?_
      refine DNew.nil ?_
      refine DRun.efG rfl rfl (EvB (t2 rfl rfl) rfl) rfl (Ef.call (.cons (t1 rfl rfl) (.cons (t0 rfl) .nil)) (view_any c ra rc rb re (playD E l2 k) hwf2) (by repeat (first | exact Sel.nil | apply Sel.cons (by repeat (first | exact .here | apply Take.there)))) ?_)
      rintro - -
      simp only [List.cons_append, List.nil_append]
      refine DRun.at [] [12, 13, 14, 15, 16, 18, 19] rfl rfl ?_ ?_
      · exact .nil
      refine DNew.rdG rfl rfl (EvB (t3 rfl rfl) rfl) rfl (Rd.not (EvB (t0 rfl) rfl)) ?_
      refine DNew.rd rfl (Rd.pickF (EvB (t4 rfl rfl) rfl) (t0 rfl)) ?_
      refine DNew.rd rfl (Rd.move (t0 rfl)) ?_
      refine DNew.rdG rfl rfl (EvB (t0 rfl) rfl) rfl (Rd.move (t30 rfl rfl)) ?_
      refine DNew.rdG rfl rfl (EvB (t1 rfl rfl) rfl) rfl (Rd.move (t30 rfl rfl)) ?_
      refine DNew.rdG rfl rfl (EvB (t2 rfl rfl) rfl) rfl (Rd.ldB Try.isAgg51 Try.sizeOf51 (t33 rfl rfl) (by repeat (first | exact .own | exact .rd | apply Blk.there)) (by first | rfl | assumption | simp_all)) ?_
      refine DNew.rdG rfl rfl (EvB (t3 rfl rfl) rfl) rfl (Rd.ldB Try.isAgg51 Try.sizeOf51 (t31 rfl rfl) (by repeat (first | exact .own | exact .rd | apply Blk.there)) (by first | rfl | assumption | simp_all)) ?_
      refine DNew.nil ?_
      refine DRun.efG rfl rfl (EvB (t4 rfl rfl) rfl) rfl (Ef.call (.cons (t3 rfl rfl) (.cons (t2 rfl rfl) .nil)) (equal_any d c E (playD E l2 k)) (by repeat (first | exact Sel.nil | apply Sel.cons (by repeat (first | exact .here | apply Take.there)))) ?_)
      rintro - -
      simp only [List.cons_append, List.nil_append]
      refine DRun.at [18, 19] [] rfl rfl ?_ ?_
      · refine DCar.rdG rfl rfl (EvB (t5 rfl rfl) rfl) rfl (lk2 rfl) (Rd.ldB Try.isAgg51 Try.sizeOf51 (t36 rfl rfl) (by repeat (first | exact .own | exact .rd | apply Blk.there)) (by first | rfl | assumption | simp_all)) ?_
        refine DCar.rdG rfl rfl (EvB (t5 rfl rfl) rfl) rfl (lk1 rfl) (Rd.ldB Try.isAgg51 Try.sizeOf51 (t33 rfl rfl) (by repeat (first | exact .own | exact .rd | apply Blk.there)) (by first | rfl | assumption | simp_all)) ?_
        exact .nil
      refine DNew.nil ?_
      refine DRun.efG rfl rfl (EvB (t5 rfl rfl) rfl) rfl (Ef.call (.cons (t2 rfl rfl) (.cons (t1 rfl rfl) .nil)) (rsame_any p1 p2 q1 q2 E hwE ra rc rb re (playD E l2 k) hwf2) (by repeat (first | exact Sel.nil | apply Sel.cons (by repeat (first | exact .here | apply Take.there)))) ?_)
      rintro - -
      simp only [List.cons_append, List.nil_append]
      refine DRun.at [] [21, 22, 23, 24] rfl rfl ?_ ?_
      · exact .nil
      refine DNew.rdG rfl rfl (EvB (t6 rfl rfl) rfl) rfl (Rd.bool2 (t1 rfl rfl) (t0 rfl) Try.runUnderlying4 (by simp)) ?_
      refine DNew.rd rfl (Rd.pickF (EvB (t7 rfl rfl) rfl) (t0 rfl)) ?_
      refine DNew.rd rfl (Rd.move (t0 rfl)) ?_
      refine DNew.rdG rfl rfl (EvB (t0 rfl) (by simp)) rfl (Rd.move (t39 rfl rfl)) ?_
      refine DNew.nil ?_
      refine DRun.efG rfl rfl (EvB (t1 rfl rfl) (by simp)) rfl (Ef.call (.cons (t0 rfl) (.cons Ev.c .nil)) (equal_dnil d E) (by repeat (first | exact Sel.nil | apply Sel.cons (by repeat (first | exact .here | apply Take.there)))) ?_)
      rintro - -
      simp only [List.cons_append, List.nil_append]
      refine DRun.end [] [26] rfl rfl ?_ ?_
      · exact .nil
      refine DNew.rd rfl (Rd.pickF (EvB (t2 rfl rfl) (by simp)) (t0 rfl)) ?_
      refine DNew.nil ?_
      refine At.next ?_
      refine J.condF (EvB (t0 rfl) rfl) ?_
      refine J.skip ?_
      refine At.next ?_
      refine J.seq ?_
      refine J.live (K := [(6, _)]) ⟨(lk44 rfl), trivial⟩ ?_
      intro ρ6
      refine J.region ?_
      refine JL.ef (Ef.call (.cons Ev.c .nil) (new_ok 2 (by decide) (by decide)) (by repeat (first | exact Sel.nil | apply Sel.cons (by repeat (first | exact .here | apply Take.there)))) ?_)
      rintro e -
      simp only [List.cons_append, List.nil_append]
      refine JL.rd (Rd.move (t0 rfl)) ?_
      refine JL.rd (Rd.extract (t0 rfl) (by repeat (first | exact .zero | apply Nth.succ))) ?_
      refine JL.rd (Rd.extract (t1 rfl rfl) (by repeat (first | exact .zero | apply Nth.succ))) ?_
      refine JL.rd (Rd.assign (t1 rfl rfl)) ?_
      refine JL.rd (Rd.assign (t1 rfl rfl)) ?_
      refine JL.nil ?_
      refine At.next ?_
      refine J.seq ?_
      refine J.region ?_
      refine JL.ef (Ef.call (.cons Ev.c .nil) (fill_ok 1) (by repeat (first | exact Sel.nil | apply Sel.cons (by repeat (first | exact .here | apply Take.there)))) ?_)
      rintro - -
      simp only [List.cons_append, List.nil_append]
      refine JL.ef (Ef.ofStr Try.underlying9 Try.underlying28 Try.underlying5 (t0 rfl) (by first | (simp [maxLen]; done) | (simp [maxLen]; omega) | (simp only [maxLen]; omega)) ?_)
      intro b7 c8
      refine JL.rd (Rd.assign (t0 rfl)) ?_
      refine JL.nil ?_
      refine At.next ?_
      refine J.seq ?_
      refine J.region ?_
      refine JL.rd (Rd.move (t4 rfl rfl)) ?_
      refine JL.rd (Rd.move (t1 rfl rfl)) ?_
      refine JL.ef (Ef.call (.cons (t1 rfl rfl) (.cons Ev.c (.cons (t0 rfl) .nil))) (write_e2 e _ _ _ (by simp) (by simp)) (by repeat (first | exact Sel.nil | apply Sel.cons (by repeat (first | exact .here | apply Take.there)))) ?_)
      rintro - -
      simp only [List.cons_append, List.nil_append]
      refine JL.rd (Rd.assign (t0 rfl)) ?_
      refine JL.nil ?_
      refine At.next ?_
      refine J.seq ?_
      refine J.region ?_
      refine JL.rd (Rd.move (t4 rfl rfl)) ?_
      refine JL.rd (Rd.byIdx Try.runUnderlying28 Try.sizeOf5 (t0 rfl) Ev.c (by first | (apply SIn.bytes; (repeat (first | exact .here | apply Take.there)); done) | (apply SIn.rowR; (repeat (first | exact .here | apply Take.there)); done) | (apply hA; (repeat (first | exact .here | apply Take.there)); done)) (by first | (simp; done) | (simp; omega) | omega | (simp [*]; done)) (by omega) (by omega)) ?_
      refine JL.ef0 (Ef.bySt (c := 9) Try.sizeOf5 (t0 rfl) Ev.c (by repeat (first | exact .here | apply Take.there)) (by simp) ?_)
      refine JL.nil ?_
      refine At.next ?_
      refine J.seq ?_
      refine J.region ?_
      refine JL.rd (Rd.move (t10 rfl rfl)) ?_
      refine JL.ef (Ef.call (.cons (t0 rfl) (.cons Ev.c .nil)) (read_ok e e2 1 rfl) (by repeat (first | exact Sel.nil | apply Sel.cons (by repeat (first | exact .here | apply Take.there)))) ?_)
      rintro ⟨ua, uc⟩ -
      rw [e2_vis]
      simp only [List.cons_append, List.nil_append]
      refine JL.rd (Rd.move (t0 rfl)) ?_
      refine JL.rd (Rd.extract (t0 rfl) (by repeat (first | exact .zero | apply Nth.succ))) ?_
      refine JL.rd (Rd.extract (t1 rfl rfl) (by repeat (first | exact .zero | apply Nth.succ))) ?_
      refine JL.rd (Rd.assign (t1 rfl rfl)) ?_
      refine JL.rd (Rd.assign (t1 rfl rfl)) ?_
      refine JL.nil ?_
      refine At.next ?_
      refine J.seq ?_
      refine J.region ?_
      refine JL.rd (Rd.move (t1 rfl rfl)) ?_
      refine JL.rd (Rd.byIdx Try.runUnderlying28 Try.sizeOf5 (t0 rfl) Ev.c (by first | (apply SIn.bytes; (repeat (first | exact .here | apply Take.there)); done) | (apply SIn.rowR; (repeat (first | exact .here | apply Take.there)); done) | (apply hA; (repeat (first | exact .here | apply Take.there)); done)) (by first | (simp; done) | (simp; omega) | omega | (simp [*]; done)) (by omega) (by omega)) ?_
      refine JL.ef0 (Ef.bySt (c := 9) Try.sizeOf5 (t0 rfl) Ev.c (by repeat (first | exact .here | apply Take.there)) (by simp) ?_)
      refine JL.nil ?_
      refine At.next ?_
      refine J.seq ?_
      refine J.region ?_
      refine JL.rd (Rd.move (t19 rfl rfl)) ?_
      refine JL.ef (Ef.call (.cons (t0 rfl) .nil) (pending_any e e2) (by repeat (first | exact Sel.nil | apply Sel.cons (by repeat (first | exact .here | apply Take.there)))) ?_)
      rintro ⟨pa, pc, px⟩ hpx
      obtain ⟨q, rfl⟩ : ∃ q, px = [q] := List.length_eq_one_iff.1 hpx
      dsimp only
      rw [e2_len, e2_pend]
      simp only [List.cons_append, List.nil_append]
      refine JL.rd (Rd.assign (t0 rfl)) ?_
      refine JL.nil ?_
      refine At.next ?_
      refine J.seq ?_
      refine J.seq ?_
      refine J.region ?_
      refine JL.rd (Rd.move (t14 rfl rfl)) ?_
      refine JL.rd (Rd.neq (t0 rfl) Ev.c) ?_
      refine JL.rd (Rd.move (t0 rfl)) ?_
      refine JL.rdG rfl (EvB (t0 rfl) rfl) rfl (Rd.move (t3 rfl rfl)) ?_
      refine JL.rdG rfl (EvB (t1 rfl rfl) rfl) rfl (Rd.len Try.runUnderlying38 (t0 rfl)) ?_
      refine JL.rdG rfl (EvB (t2 rfl rfl) rfl) rfl (Rd.neq (t0 rfl) Ev.c) ?_
      refine JL.rd (Rd.pickF (EvB (t3 rfl rfl) rfl) (t0 rfl)) ?_
      refine JL.nil ?_
      refine At.next ?_
      refine J.condF (EvB (t0 rfl) rfl) ?_
      refine J.skip ?_
      refine At.next ?_
      refine J.seq ?_
      refine J.live (K := [(19, _), (13, _), (6, _)]) ⟨(lk7 rfl), (lk29 rfl), (lk34 rfl), trivial⟩ ?_
      intro ρ9
      refine J.bytesL1 (by repeat (first | exact .here | apply Take.there)) ?_
      have hy : (wl [(1, full 1)] [q])[(0 : Int).toNat]? = some [.int .i64 1, .slice q.1 (full 1).length q.2] := rfl
      have hy2 : (0 : Int).toNat < (wl [(1, full 1)] [q]).length := Nat.lt_succ_self 0
      refine J.region ?_
      refine JL.rd (Rd.move (t0 rfl)) ?_
      refine JL.rd (Rd.sIdx Try.runUnderlying38 Try.sizeOf74 (t0 rfl) Ev.c (SIn.row (by repeat (first | exact .here | apply Take.there))) rfl (by omega) (by omega)) ?_
      refine JL.rd (Rd.sFld0 fld_74_1 (t0 rfl) (SIn.row (by repeat (first | exact .here | apply Take.there))) hy2) ?_
      refine JL.rd (Rd.sLd Try.isAgg28 (t0 rfl) (SIn.row (by repeat (first | exact .here | apply Take.there))) hy rfl) ?_
      refine JL.rd (Rd.byIdx Try.runUnderlying28 Try.sizeOf5 (t0 rfl) Ev.c (by first | (apply SIn.bytes; (repeat (first | exact .here | apply Take.there)); done) | (apply SIn.rowR; (repeat (first | exact .here | apply Take.there)); done) | (apply hA; (repeat (first | exact .here | apply Take.there)); done)) (by first | (simp; done) | (simp; omega) | omega | (simp [*]; done)) (by omega) (by omega)) ?_
      refine JL.ef0 (Ef.bySt (c := 9) Try.sizeOf5 (t0 rfl) Ev.c (by repeat (first | exact .here | apply Take.there)) (by simp) ?_)
      refine JL.nil ?_
      refine At.next ?_
      refine J.seq ?_
      refine J.region ?_
      refine JL.rd (Rd.move (t6 rfl rfl)) ?_
      refine JL.ef (Ef.call (.cons (t0 rfl) (.cons Ev.c .nil)) (read_ok e e2 1 rfl) (by repeat (first | exact Sel.nil | apply Sel.cons (by repeat (first | exact .here | apply Take.there)))) ?_)
      rintro ⟨va, vc⟩ -
      rw [e2_vis]
      simp only [List.cons_append, List.nil_append]
      refine JL.rd (Rd.move (t0 rfl)) ?_
      refine JL.rd (Rd.extract (t0 rfl) (by repeat (first | exact .zero | apply Nth.succ))) ?_
      refine JL.rd (Rd.extract (t1 rfl rfl) (by repeat (first | exact .zero | apply Nth.succ))) ?_
      refine JL.rd (Rd.assign (t1 rfl rfl)) ?_
      refine JL.rd (Rd.assign (t1 rfl rfl)) ?_
      refine JL.nil ?_
      refine At.next ?_
      refine J.seq ?_
      refine J.draw [⟨false, 0, 1⟩, ⟨false, 0, 1⟩, ⟨true, 0, 0⟩, ⟨false, 1, 1⟩, ⟨false, 1, 1⟩] [2] mixed rfl ?_
      refine DRun.at [] [0, 1] rfl rfl ?_ ?_
      · exact .nil
      refine DNew.rd rfl (Rd.move (t1 rfl rfl)) ?_
      refine DNew.rd rfl (Rd.byStr Try.underlying28 Try.underlying5 Try.underlying9 (t0 rfl) (by first | (apply SIn.bytes; (repeat (first | exact .here | apply Take.there)); done) | (apply SIn.rowR; (repeat (first | exact .here | apply Take.there)); done) | (apply hA; (repeat (first | exact .here | apply Take.there)); done)) (by first | (simp; done) | (simp; omega) | omega | (simp [*]; done))) ?_
      refine DNew.nil ?_
      refine DRun.ef rfl (Ef.call (.cons Ev.c .nil) (fill_ok 1) (by repeat (first | exact Sel.nil | apply Sel.cons (by repeat (first | exact .here | apply Take.there)))) ?_)
      rintro - -
      simp only [List.cons_append, List.nil_append]
      refine DRun.end [0, 1] [3, 4] rfl rfl ?_ ?_
      · refine DCar.rd rfl (lk2 rfl) (Rd.move (t4 rfl rfl)) ?_
        refine DCar.rd rfl (lk1 rfl) (Rd.byStr Try.underlying28 Try.underlying5 Try.underlying9 (t2 rfl rfl) (by first | (apply SIn.bytes; (repeat (first | exact .here | apply Take.there)); done) | (apply SIn.rowR; (repeat (first | exact .here | apply Take.there)); done) | (apply hA; (repeat (first | exact .here | apply Take.there)); done)) (by first | (simp; done) | (simp; omega) | omega | (simp [*]; done))) ?_
        exact .nil
      refine DNew.rd rfl (Rd.str_eql (t1 rfl rfl) (t0 rfl)) ?_
      refine DNew.rd rfl (Rd.assign (t0 rfl)) ?_
      refine DNew.nil ?_
      refine At.next ?_
      refine J.ret ?_
      exact At.ret (()) (trivial) (ResV.one rfl (t0 rfl)) (congrArg Value.bool (decide_eq_true rfl)) (fun _ => Stars.sel (by repeat (first | exact Sel.nil | apply Sel.cons (by repeat (first | exact .here | apply Take.there)))))
  · intro hb3p hb3
    refine JL.skG rfl (EvB (t0 rfl) hb3) rfl ?_
    refine JL.skG rfl (EvB (t1 rfl rfl) hb3) rfl ?_
    refine JL.rd (Rd.pickF (EvB (t2 rfl rfl) hb3) Ev.c) ?_
    refine JL.rd (Rd.move (t0 rfl)) ?_
    refine JL.skG rfl (t0 rfl) rfl ?_
    refine JL.rd (Rd.pickF (t1 rfl rfl) Ev.c) ?_
    refine JL.nil ?_
    refine At.next ?_
    refine J.condF (t0 rfl) ?_
    refine J.exit ?_
    refine At.nextX ?_
    refine At.loopX ?_
    refine At.blkX ?_
    refine At.next ?_
    refine J.seq ?_
    refine J.seq ?_
    refine J.know (fun h s => dk_wf (Stars.sel (pre := [dk c (playD E l2 k)]) (by repeat (first | exact Sel.nil | apply Sel.cons (by repeat (first | exact .here | apply Take.there)))) s)) ?_
    intro hwf2
    refine J.draw [⟨false, 0, 0⟩, ⟨false, 0, 0⟩, ⟨false, 0, 0⟩, ⟨false, 0, 0⟩, ⟨false, 0, 0⟩, ⟨true, 0, 0⟩, ⟨false, 1, 1⟩, ⟨false, 1, 1⟩, ⟨false, 1, 1⟩, ⟨false, 1, 1⟩, ⟨false, 1, 1⟩, ⟨true, 1, 1⟩, ⟨false, 2, 2⟩, ⟨false, 2, 2⟩, ⟨false, 2, 2⟩, ⟨false, 2, 2⟩, ⟨false, 2, 2⟩, ⟨true, 2, 2⟩, ⟨false, 2, 3⟩, ⟨false, 2, 3⟩, ⟨true, 3, 3⟩, ⟨false, 4, 4⟩, ⟨false, 4, 4⟩, ⟨false, 4, 4⟩, ⟨false, 4, 4⟩, ⟨true, 4, 4⟩, ⟨false, 5, 5⟩] [5, 11, 17, 20, 25] mixed rfl ?_
    refine DRun.at [] [0, 1, 2, 3, 4] rfl rfl ?_ ?_
    · exact .nil
    refine DNew.rd rfl (Rd.move (t12 rfl rfl)) ?_
    refine DNew.rd rfl (Rd.not (EvB (t0 rfl) rfl)) ?_
    refine DNew.rd rfl (Rd.move (t0 rfl)) ?_
    refine DNew.rdG rfl rfl (EvB (t0 rfl) rfl) rfl (Rd.move (t18 rfl rfl)) ?_
    refine DNew.rdG rfl rfl (EvB (t1 rfl rfl) rfl) rfl (Rd.ldB Try.isAgg51 Try.sizeOf51 (t20 rfl rfl) (by repeat (first | exact .own | exact .rd | apply Blk.there)) (by first | rfl | assumption | simp_all)) ?_
    refine DNew.nil ?_
    refine DRun.efG rfl rfl (EvB (t2 rfl rfl) rfl) rfl (Ef.call (.cons (t1 rfl rfl) (.cons (t0 rfl) .nil)) (view_any d p1 p2 q1 q2 E hwE) (by repeat (first | exact Sel.nil | apply Sel.cons (by repeat (first | exact .here | apply Take.there)))) ?_)
    rintro - -
    simp only [List.cons_append, List.nil_append]
    refine DRun.at [] [6, 7, 8, 9, 10] rfl rfl ?_ ?_
    · exact .nil
    refine DNew.rdG rfl rfl (EvB (t3 rfl rfl) rfl) rfl (Rd.not (EvB (t0 rfl) rfl)) ?_
    refine DNew.rd rfl (Rd.pickF (EvB (t4 rfl rfl) rfl) (t0 rfl)) ?_
    refine DNew.rd rfl (Rd.move (t0 rfl)) ?_
    refine DNew.rdG rfl rfl (EvB (t0 rfl) rfl) rfl (Rd.move (t23 rfl rfl)) ?_
    refine DNew.rdG rfl rfl (EvB (t1 rfl rfl) rfl) rfl (Rd.ldB Try.isAgg51 Try.sizeOf51 (t23 rfl rfl) (by repeat (first | exact .own | exact .rd | apply Blk.there)) (by first | rfl | assumption | simp_all)) ?_
    refine DNew.nil ?_
    refine DRun.efG rfl rfl (EvB (t2 rfl rfl) rfl) rfl (Ef.call (.cons (t1 rfl rfl) (.cons (t0 rfl) .nil)) (view_any c ra rc rb re (playD E l2 k) hwf2) (by repeat (first | exact Sel.nil | apply Sel.cons (by repeat (first | exact .here | apply Take.there)))) ?_)
    rintro - -
    simp only [List.cons_append, List.nil_append]
    refine DRun.at [] [12, 13, 14, 15, 16, 18, 19] rfl rfl ?_ ?_
    · exact .nil
    refine DNew.rdG rfl rfl (EvB (t3 rfl rfl) rfl) rfl (Rd.not (EvB (t0 rfl) rfl)) ?_
    refine DNew.rd rfl (Rd.pickF (EvB (t4 rfl rfl) rfl) (t0 rfl)) ?_
    refine DNew.rd rfl (Rd.move (t0 rfl)) ?_
    refine DNew.rdG rfl rfl (EvB (t0 rfl) rfl) rfl (Rd.move (t30 rfl rfl)) ?_
    refine DNew.rdG rfl rfl (EvB (t1 rfl rfl) rfl) rfl (Rd.move (t30 rfl rfl)) ?_
    refine DNew.rdG rfl rfl (EvB (t2 rfl rfl) rfl) rfl (Rd.ldB Try.isAgg51 Try.sizeOf51 (t33 rfl rfl) (by repeat (first | exact .own | exact .rd | apply Blk.there)) (by first | rfl | assumption | simp_all)) ?_
    refine DNew.rdG rfl rfl (EvB (t3 rfl rfl) rfl) rfl (Rd.ldB Try.isAgg51 Try.sizeOf51 (t31 rfl rfl) (by repeat (first | exact .own | exact .rd | apply Blk.there)) (by first | rfl | assumption | simp_all)) ?_
    refine DNew.nil ?_
    refine DRun.efG rfl rfl (EvB (t4 rfl rfl) rfl) rfl (Ef.call (.cons (t3 rfl rfl) (.cons (t2 rfl rfl) .nil)) (equal_any d c E (playD E l2 k)) (by repeat (first | exact Sel.nil | apply Sel.cons (by repeat (first | exact .here | apply Take.there)))) ?_)
    rintro - -
    simp only [List.cons_append, List.nil_append]
    refine DRun.at [18, 19] [] rfl rfl ?_ ?_
    · refine DCar.rdG rfl rfl (EvB (t5 rfl rfl) rfl) rfl (lk2 rfl) (Rd.ldB Try.isAgg51 Try.sizeOf51 (t36 rfl rfl) (by repeat (first | exact .own | exact .rd | apply Blk.there)) (by first | rfl | assumption | simp_all)) ?_
      refine DCar.rdG rfl rfl (EvB (t5 rfl rfl) rfl) rfl (lk1 rfl) (Rd.ldB Try.isAgg51 Try.sizeOf51 (t33 rfl rfl) (by repeat (first | exact .own | exact .rd | apply Blk.there)) (by first | rfl | assumption | simp_all)) ?_
      exact .nil
    refine DNew.nil ?_
    refine DRun.efG rfl rfl (EvB (t5 rfl rfl) rfl) rfl (Ef.call (.cons (t2 rfl rfl) (.cons (t1 rfl rfl) .nil)) (rsame_any p1 p2 q1 q2 E hwE ra rc rb re (playD E l2 k) hwf2) (by repeat (first | exact Sel.nil | apply Sel.cons (by repeat (first | exact .here | apply Take.there)))) ?_)
    rintro - -
    simp only [List.cons_append, List.nil_append]
    refine DRun.at [] [21, 22, 23, 24] rfl rfl ?_ ?_
    · exact .nil
    refine DNew.rdG rfl rfl (EvB (t6 rfl rfl) rfl) rfl (Rd.bool2 (t1 rfl rfl) (t0 rfl) Try.runUnderlying4 (by simp)) ?_
    refine DNew.rd rfl (Rd.pickF (EvB (t7 rfl rfl) rfl) (t0 rfl)) ?_
    refine DNew.rd rfl (Rd.move (t0 rfl)) ?_
    refine DNew.rdG rfl rfl (EvB (t0 rfl) (by simp)) rfl (Rd.move (t39 rfl rfl)) ?_
    refine DNew.nil ?_
    refine DRun.efG rfl rfl (EvB (t1 rfl rfl) (by simp)) rfl (Ef.call (.cons (t0 rfl) (.cons Ev.c .nil)) (equal_dnil d E) (by repeat (first | exact Sel.nil | apply Sel.cons (by repeat (first | exact .here | apply Take.there)))) ?_)
    rintro - -
    simp only [List.cons_append, List.nil_append]
    refine DRun.end [] [26] rfl rfl ?_ ?_
    · exact .nil
    refine DNew.rd rfl (Rd.pickF (EvB (t2 rfl rfl) (by simp)) (t0 rfl)) ?_
    refine DNew.nil ?_
    refine At.next ?_
    refine J.condF (EvB (t0 rfl) rfl) ?_
    refine J.skip ?_
    refine At.next ?_
    refine J.seq ?_
    refine J.live (K := [(6, _)]) ⟨(lk44 rfl), trivial⟩ ?_
    intro ρ10
    refine J.region ?_
    refine JL.ef (Ef.call (.cons Ev.c .nil) (new_ok 2 (by decide) (by decide)) (by repeat (first | exact Sel.nil | apply Sel.cons (by repeat (first | exact .here | apply Take.there)))) ?_)
    rintro e -
    simp only [List.cons_append, List.nil_append]
    refine JL.rd (Rd.move (t0 rfl)) ?_
    refine JL.rd (Rd.extract (t0 rfl) (by repeat (first | exact .zero | apply Nth.succ))) ?_
    refine JL.rd (Rd.extract (t1 rfl rfl) (by repeat (first | exact .zero | apply Nth.succ))) ?_
    refine JL.rd (Rd.assign (t1 rfl rfl)) ?_
    refine JL.rd (Rd.assign (t1 rfl rfl)) ?_
    refine JL.nil ?_
    refine At.next ?_
    refine J.seq ?_
    refine J.region ?_
    refine JL.ef (Ef.call (.cons Ev.c .nil) (fill_ok 1) (by repeat (first | exact Sel.nil | apply Sel.cons (by repeat (first | exact .here | apply Take.there)))) ?_)
    rintro - -
    simp only [List.cons_append, List.nil_append]
    refine JL.ef (Ef.ofStr Try.underlying9 Try.underlying28 Try.underlying5 (t0 rfl) (by first | (simp [maxLen]; done) | (simp [maxLen]; omega) | (simp only [maxLen]; omega)) ?_)
    intro b11 c12
    refine JL.rd (Rd.assign (t0 rfl)) ?_
    refine JL.nil ?_
    refine At.next ?_
    refine J.seq ?_
    refine J.region ?_
    refine JL.rd (Rd.move (t4 rfl rfl)) ?_
    refine JL.rd (Rd.move (t1 rfl rfl)) ?_
    refine JL.ef (Ef.call (.cons (t1 rfl rfl) (.cons Ev.c (.cons (t0 rfl) .nil))) (write_e2 e _ _ _ (by simp) (by simp)) (by repeat (first | exact Sel.nil | apply Sel.cons (by repeat (first | exact .here | apply Take.there)))) ?_)
    rintro - -
    simp only [List.cons_append, List.nil_append]
    refine JL.rd (Rd.assign (t0 rfl)) ?_
    refine JL.nil ?_
    refine At.next ?_
    refine J.seq ?_
    refine J.region ?_
    refine JL.rd (Rd.move (t4 rfl rfl)) ?_
    refine JL.rd (Rd.byIdx Try.runUnderlying28 Try.sizeOf5 (t0 rfl) Ev.c (by first | (apply SIn.bytes; (repeat (first | exact .here | apply Take.there)); done) | (apply SIn.rowR; (repeat (first | exact .here | apply Take.there)); done) | (apply hA; (repeat (first | exact .here | apply Take.there)); done)) (by first | (simp; done) | (simp; omega) | omega | (simp [*]; done)) (by omega) (by omega)) ?_
    refine JL.ef0 (Ef.bySt (c := 9) Try.sizeOf5 (t0 rfl) Ev.c (by repeat (first | exact .here | apply Take.there)) (by simp) ?_)
    refine JL.nil ?_
    refine At.next ?_
    refine J.seq ?_
    refine J.region ?_
    refine JL.rd (Rd.move (t10 rfl rfl)) ?_
    refine JL.ef (Ef.call (.cons (t0 rfl) (.cons Ev.c .nil)) (read_ok e e2 1 rfl) (by repeat (first | exact Sel.nil | apply Sel.cons (by repeat (first | exact .here | apply Take.there)))) ?_)
    rintro ⟨ua, uc⟩ -
    rw [e2_vis]
    simp only [List.cons_append, List.nil_append]
    refine JL.rd (Rd.move (t0 rfl)) ?_
    refine JL.rd (Rd.extract (t0 rfl) (by repeat (first | exact .zero | apply Nth.succ))) ?_
    refine JL.rd (Rd.extract (t1 rfl rfl) (by repeat (first | exact .zero | apply Nth.succ))) ?_
    refine JL.rd (Rd.assign (t1 rfl rfl)) ?_
    refine JL.rd (Rd.assign (t1 rfl rfl)) ?_
    refine JL.nil ?_
    refine At.next ?_
    refine J.seq ?_
    refine J.region ?_
    refine JL.rd (Rd.move (t1 rfl rfl)) ?_
    refine JL.rd (Rd.byIdx Try.runUnderlying28 Try.sizeOf5 (t0 rfl) Ev.c (by first | (apply SIn.bytes; (repeat (first | exact .here | apply Take.there)); done) | (apply SIn.rowR; (repeat (first | exact .here | apply Take.there)); done) | (apply hA; (repeat (first | exact .here | apply Take.there)); done)) (by first | (simp; done) | (simp; omega) | omega | (simp [*]; done)) (by omega) (by omega)) ?_
    refine JL.ef0 (Ef.bySt (c := 9) Try.sizeOf5 (t0 rfl) Ev.c (by repeat (first | exact .here | apply Take.there)) (by simp) ?_)
    refine JL.nil ?_
    refine At.next ?_
    refine J.seq ?_
    refine J.region ?_
    refine JL.rd (Rd.move (t19 rfl rfl)) ?_
    refine JL.ef (Ef.call (.cons (t0 rfl) .nil) (pending_any e e2) (by repeat (first | exact Sel.nil | apply Sel.cons (by repeat (first | exact .here | apply Take.there)))) ?_)
    rintro ⟨pa, pc, px⟩ hpx
    obtain ⟨q, rfl⟩ : ∃ q, px = [q] := List.length_eq_one_iff.1 hpx
    dsimp only
    rw [e2_len, e2_pend]
    simp only [List.cons_append, List.nil_append]
    refine JL.rd (Rd.assign (t0 rfl)) ?_
    refine JL.nil ?_
    refine At.next ?_
    refine J.seq ?_
    refine J.seq ?_
    refine J.region ?_
    refine JL.rd (Rd.move (t14 rfl rfl)) ?_
    refine JL.rd (Rd.neq (t0 rfl) Ev.c) ?_
    refine JL.rd (Rd.move (t0 rfl)) ?_
    refine JL.rdG rfl (EvB (t0 rfl) rfl) rfl (Rd.move (t3 rfl rfl)) ?_
    refine JL.rdG rfl (EvB (t1 rfl rfl) rfl) rfl (Rd.len Try.runUnderlying38 (t0 rfl)) ?_
    refine JL.rdG rfl (EvB (t2 rfl rfl) rfl) rfl (Rd.neq (t0 rfl) Ev.c) ?_
    refine JL.rd (Rd.pickF (EvB (t3 rfl rfl) rfl) (t0 rfl)) ?_
    refine JL.nil ?_
    refine At.next ?_
    refine J.condF (EvB (t0 rfl) rfl) ?_
    refine J.skip ?_
    refine At.next ?_
    refine J.seq ?_
    refine J.live (K := [(19, _), (13, _), (6, _)]) ⟨(lk7 rfl), (lk29 rfl), (lk34 rfl), trivial⟩ ?_
    intro ρ13
    refine J.bytesL1 (by repeat (first | exact .here | apply Take.there)) ?_
    have hy : (wl [(1, full 1)] [q])[(0 : Int).toNat]? = some [.int .i64 1, .slice q.1 (full 1).length q.2] := rfl
    have hy2 : (0 : Int).toNat < (wl [(1, full 1)] [q]).length := Nat.lt_succ_self 0
    refine J.region ?_
    refine JL.rd (Rd.move (t0 rfl)) ?_
    refine JL.rd (Rd.sIdx Try.runUnderlying38 Try.sizeOf74 (t0 rfl) Ev.c (SIn.row (by repeat (first | exact .here | apply Take.there))) rfl (by omega) (by omega)) ?_
    refine JL.rd (Rd.sFld0 fld_74_1 (t0 rfl) (SIn.row (by repeat (first | exact .here | apply Take.there))) hy2) ?_
    refine JL.rd (Rd.sLd Try.isAgg28 (t0 rfl) (SIn.row (by repeat (first | exact .here | apply Take.there))) hy rfl) ?_
    refine JL.rd (Rd.byIdx Try.runUnderlying28 Try.sizeOf5 (t0 rfl) Ev.c (by first | (apply SIn.bytes; (repeat (first | exact .here | apply Take.there)); done) | (apply SIn.rowR; (repeat (first | exact .here | apply Take.there)); done) | (apply hA; (repeat (first | exact .here | apply Take.there)); done)) (by first | (simp; done) | (simp; omega) | omega | (simp [*]; done)) (by omega) (by omega)) ?_
    refine JL.ef0 (Ef.bySt (c := 9) Try.sizeOf5 (t0 rfl) Ev.c (by repeat (first | exact .here | apply Take.there)) (by simp) ?_)
    refine JL.nil ?_
    refine At.next ?_
    refine J.seq ?_
    refine J.region ?_
    refine JL.rd (Rd.move (t6 rfl rfl)) ?_
    refine JL.ef (Ef.call (.cons (t0 rfl) (.cons Ev.c .nil)) (read_ok e e2 1 rfl) (by repeat (first | exact Sel.nil | apply Sel.cons (by repeat (first | exact .here | apply Take.there)))) ?_)
    rintro ⟨va, vc⟩ -
    rw [e2_vis]
    simp only [List.cons_append, List.nil_append]
    refine JL.rd (Rd.move (t0 rfl)) ?_
    refine JL.rd (Rd.extract (t0 rfl) (by repeat (first | exact .zero | apply Nth.succ))) ?_
    refine JL.rd (Rd.extract (t1 rfl rfl) (by repeat (first | exact .zero | apply Nth.succ))) ?_
    refine JL.rd (Rd.assign (t1 rfl rfl)) ?_
    refine JL.rd (Rd.assign (t1 rfl rfl)) ?_
    refine JL.nil ?_
    refine At.next ?_
    refine J.seq ?_
    refine J.draw [⟨false, 0, 1⟩, ⟨false, 0, 1⟩, ⟨true, 0, 0⟩, ⟨false, 1, 1⟩, ⟨false, 1, 1⟩] [2] mixed rfl ?_
    refine DRun.at [] [0, 1] rfl rfl ?_ ?_
    · exact .nil
    refine DNew.rd rfl (Rd.move (t1 rfl rfl)) ?_
    refine DNew.rd rfl (Rd.byStr Try.underlying28 Try.underlying5 Try.underlying9 (t0 rfl) (by first | (apply SIn.bytes; (repeat (first | exact .here | apply Take.there)); done) | (apply SIn.rowR; (repeat (first | exact .here | apply Take.there)); done) | (apply hA; (repeat (first | exact .here | apply Take.there)); done)) (by first | (simp; done) | (simp; omega) | omega | (simp [*]; done))) ?_
    refine DNew.nil ?_
    refine DRun.ef rfl (Ef.call (.cons Ev.c .nil) (fill_ok 1) (by repeat (first | exact Sel.nil | apply Sel.cons (by repeat (first | exact .here | apply Take.there)))) ?_)
    rintro - -
    simp only [List.cons_append, List.nil_append]
    refine DRun.end [0, 1] [3, 4] rfl rfl ?_ ?_
    · refine DCar.rd rfl (lk2 rfl) (Rd.move (t4 rfl rfl)) ?_
      refine DCar.rd rfl (lk1 rfl) (Rd.byStr Try.underlying28 Try.underlying5 Try.underlying9 (t2 rfl rfl) (by first | (apply SIn.bytes; (repeat (first | exact .here | apply Take.there)); done) | (apply SIn.rowR; (repeat (first | exact .here | apply Take.there)); done) | (apply hA; (repeat (first | exact .here | apply Take.there)); done)) (by first | (simp; done) | (simp; omega) | omega | (simp [*]; done))) ?_
      exact .nil
    refine DNew.rd rfl (Rd.str_eql (t1 rfl rfl) (t0 rfl)) ?_
    refine DNew.rd rfl (Rd.assign (t0 rfl)) ?_
    refine DNew.nil ?_
    refine At.next ?_
    refine J.ret ?_
    exact At.ret (()) (trivial) (ResV.one rfl (t0 rfl)) (congrArg Value.bool (decide_eq_true rfl)) (fun _ => Stars.sel (by repeat (first | exact Sel.nil | apply Sel.cons (by repeat (first | exact .here | apply Take.there)))))
end Go.Proofs.Ytfnoaohbjlnkgaa
