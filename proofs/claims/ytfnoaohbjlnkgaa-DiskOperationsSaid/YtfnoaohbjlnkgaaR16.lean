/-
  Walks, printed by mk.py.
-/
import Derived.Test.YtfnoaohbjlnkgaaR15
namespace Go.Proofs.Ytfnoaohbjlnkgaa
attribute [local irreducible] J JL At Rd Ef DNew DCar DRun Then RetQ LoopQ


theorem opsIn_nil {l : List Assn} {h : Frag} (s : Stars l h) : Stars (opsIn none [] :: l) h := by
  have s1 := rowR_nil (a := none) (s := 5) s
  obtain ⟨h1, h2, a, b, c, rfl⟩ := s1
  exact ⟨h1, h2, by unfold opsIn; exact ⟨a, fun o ho => by cases ho⟩, b, c, rfl⟩
theorem play_nil (b : UInt8) : Fn Try.prog 27 [.int .u8 (b.toNat : Int), .slice none 0 0] [] (X := Nat × Option Addr × Nat × Option Addr × Nat) (fun _ => True)
    (fun x => .tuple #[.pointer (some ⟨x.1, 0, none⟩), refV x.2.1 x.2.2.1 x.2.2.2.1 x.2.2.2.2 (newD (1 + b.toNat % 8)), .bool true])
    (fun x => [dk x.1 (newD (1 + b.toNat % 8)), rowR x.2.1 1 (durs (newD (1 + b.toNat % 8)).n (newD (1 + b.toNat % 8)).dur), rowR x.2.2.2.1 2 ((newD (1 + b.toNat % 8)).pend.map wcell)]) :=
  (play_any b none 0 [] (Nat.zero_le _)).cv (fun _ s => opsIn_nil s) (fun _ _ => rfl) fun x h _ s => Stars.sel (by repeat (first | exact Sel.nil | apply Sel.cons (by repeat (first | exact .here | apply Take.there)))) s

set_option maxRecDepth 100000 in
set_option maxHeartbeats 400000 in
theorem dops_any (b : UInt8) (a : Option Addr) (cap : Nat) (l : List OpV) (hl : l.length ≤ 9223372036854775807) :
    Fn Try.prog 9 [.int .u8 (b.toNat : Int), .slice a l.length cap] [opsIn a l] (X := Unit) (fun _ => True) (fun _ => .bool true) (fun _ => []) := by
  refine Fn.mk' (n := 47) (l := [(0, .int .u8 (b.toNat : Int)), (1, .slice a l.length cap)]) (fn := Try.f9) Try.func9 (by kernel_rfl) rfl rfl (by simp) rfl ?_
  intro h0 w0
  refine J.seq ?_
  refine J.region ?_
  refine JL.rd (Rd.assign Ev.c) ?_
  refine JL.nil ?_
  refine At.next ?_
  refine J.seq ?_
  refine J.seq ?_
  refine J.region ?_
  refine JL.ef (Ef.call .nil (known_any) (by repeat (first | exact Sel.nil | apply Sel.cons (by repeat (first | exact .here | apply Take.there)))) ?_)
  rintro - -
  simp only [List.cons_append, List.nil_append]
  refine JL.rd (Rd.not (EvB (t0 rfl) rfl)) ?_
  refine JL.nil ?_
  refine At.next ?_
  refine J.condF (EvB (t0 rfl) rfl) ?_
  refine J.skip ?_
  refine At.next ?_
  refine J.seq ?_
  refine J.region ?_
  refine JL.rd (Rd.move (t3 rfl rfl)) ?_
  refine JL.ef (Ef.call (.cons (t0 rfl) (.cons Ev.c .nil)) (play_nil b) (by repeat (first | exact Sel.nil | apply Sel.cons (by repeat (first | exact .here | apply Take.there)))) ?_)
  rintro ⟨d, p1, q1, p2, q2⟩ -
  simp only [List.cons_append, List.nil_append]
  refine JL.rd (Rd.move (t0 rfl)) ?_
  refine JL.rd (Rd.extract (t0 rfl) (by repeat (first | exact .zero | apply Nth.succ))) ?_
  refine JL.rd (Rd.extract (t1 rfl rfl) (by repeat (first | exact .zero | apply Nth.succ))) ?_
  refine JL.rd (Rd.extract (t2 rfl rfl) (by repeat (first | exact .zero | apply Nth.succ))) ?_
  refine JL.ef (Ef.alloc Try.zeroValue51 rfl ?_)
  intro b1
  refine JL.rd (Rd.assign (t3 rfl rfl)) ?_
  refine JL.ef0 (Ef.stB Try.sizeOf51 (t1 rfl rfl) (t3 rfl rfl) (by repeat (first | exact .here | apply Rep.there)) (by repeat (first | exact .own | exact .rd | apply Blk.there)) (by first | rfl | assumption | simp_all) (by first | rfl | assumption | simp_all) (by first | exact bv_one _ | exact cons_one rfl (bv_one _) | (simp [Value.oneCell']; done) | (simp [Value.oneCell', str]; done)) (by decide) ?_)
  refine JL.rd (Rd.assign (t2 rfl rfl)) ?_
  refine JL.nil ?_
  refine At.next ?_
  refine J.seq ?_
  refine J.seq ?_
  refine J.region ?_
  refine JL.rd (Rd.assign Ev.c) ?_
  refine JL.nil ?_
  refine At.next ?_
  refine J.block ?_
  refine J.loop (X := Nat × Option Addr × Nat × Option Addr × Nat) (fun (x : Nat × Option Addr × Nat × Option Addr × Nat) => [(8, .int .i64 (x.1 : Int)), (7, .bool true)]) (K := [(5, _), (6, _), (4, _), (1, _)]) (fun x => [dk d (playD (newD (1 + b.toNat % 8)) l x.1), rowR x.2.1 1 (durs (playD (newD (1 + b.toNat % 8)) l x.1).n (playD (newD (1 + b.toNat % 8)) l x.1).dur), rowR x.2.2.2.1 2 ((playD (newD (1 + b.toNat % 8)) l x.1).pend.map wcell), opsIn a l, pts b1 (.cells [Value.slice x.2.1 (playD (newD (1 + b.toNat % 8)) l x.1).n x.2.2.1, .slice x.2.2.2.1 (playD (newD (1 + b.toNat % 8)) l x.1).pend.length x.2.2.2.2, .int .i64 (playD (newD (1 + b.toNat % 8)) l x.1).lim, .bool (playD (newD (1 + b.toNat % 8)) l x.1).down, .int .i64 (playD (newD (1 + b.toNat % 8)) l x.1).ops].toArray 51)]) (fun x => x.1 ≤ l.length ∧ x.1 ≤ 30) (fun x => 30 - x.1) ((0, p1, q1, p2, q2)) ?_ ⟨lk0.trans (by first | with_reducible rfl | (congr 1; omega) | (simp; done) | (simp [*]; done)), (lk1 rfl).trans (by first | with_reducible rfl | (congr 1; omega) | (simp; done) | (simp [*]; done)), trivial⟩ ⟨(lk2 rfl), (lk3 rfl), (lk12 rfl), (lk14 rfl), trivial⟩ (fun _ => Stars.sel (by repeat (first | exact Sel.nil | apply Sel.cons (by repeat (first | exact .here | apply Take.there))))) ?_
  · exact ⟨Nat.zero_le _, Nat.zero_le _⟩
  rintro ⟨k, ra, rb, rc, re⟩ ρ ⟨hk, hk2⟩
  simp only [List.cons_append, List.nil_append]
  dsimp only at hk hk2 ⊢
  obtain ⟨hops, hpend, hn⟩ := playD_ops (newD (1 + b.toNat % 8)) l k
  have ho0 : (newD (1 + b.toNat % 8)).ops = 0 := rfl
  have hp0 : (newD (1 + b.toNat % 8)).pend.length = 0 := rfl
  refine J.seq ?_
  refine J.seq ?_
  refine J.region ?_
  refine JL.rd (Rd.move (t0 rfl)) ?_
  refine JL.rd (Rd.move (t6 rfl rfl)) ?_
  refine JL.rd (Rd.len Try.runUnderlying47 (t0 rfl)) ?_
  refine JL.rd (Rd.lss (t2 rfl rfl) (t0 rfl)) ?_
  refine JL.rd (Rd.move (t0 rfl)) ?_
  refine JL.caseD (t0 rfl) ?_ ?_
  · intro hb2p hb2
    refine JL.rdG rfl (EvB (t0 rfl) hb2) rfl (Rd.move (t5 rfl rfl)) ?_
    refine JL.rdG rfl (EvB (t1 rfl rfl) hb2) rfl (Rd.lss (t0 rfl) Ev.c) ?_
    refine JL.rd (Rd.pickT (EvB (t2 rfl rfl) hb2) (t0 rfl)) ?_
    refine JL.rd (Rd.move (t0 rfl)) ?_
    refine JL.caseD (t0 rfl) ?_ ?_
    · intro hb3p hb3
      refine JL.rdG rfl (EvB (t0 rfl) hb3) rfl (Rd.move (t10 rfl rfl)) ?_
      refine JL.rd (Rd.pickT (EvB (t1 rfl rfl) hb3) (t0 rfl)) ?_
      refine JL.nil ?_
      refine At.next ?_
      refine J.condT (EvB (t0 rfl) rfl) ?_
      refine J.skip ?_
      refine At.next ?_
      refine J.seq ?_
      refine J.block ?_
      refine J.seq ?_
      obtain ⟨o, hlo⟩ : ∃ o, l[k]? = some o := ⟨_, List.getElem?_eq_getElem (by omega)⟩
      refine J.opGet (by repeat (first | exact .here | apply Take.there)) hlo ?_
      intro hok
      refine J.know (fun h s => dk_wf (Stars.sel (pre := [dk d (playD (newD (1 + b.toNat % 8)) l k)]) (by repeat (first | exact Sel.nil | apply Sel.cons (by repeat (first | exact .here | apply Take.there)))) s)) ?_
      intro hwf
      have hx : (l.map opC)[(k : Int).toNat]? = some (opC o) := by simp [hlo]
      refine J.draw [⟨false, 0, 0⟩, ⟨false, 0, 0⟩, ⟨false, 0, 0⟩, ⟨false, 0, 0⟩, ⟨false, 0, 0⟩, ⟨false, 0, 0⟩, ⟨true, 0, 0⟩, ⟨false, 1, 1⟩, ⟨false, 1, 1⟩, ⟨false, 1, 2⟩, ⟨true, 1, 1⟩, ⟨false, 2, 2⟩] [6, 10] mixed rfl ?_
      refine DRun.at [] [0, 1, 2, 3, 4, 5] rfl rfl ?_ ?_
      · exact .nil
      refine DNew.rd rfl (Rd.move (t13 rfl rfl)) ?_
      refine DNew.rd rfl (Rd.ldB Try.isAgg51 Try.sizeOf51 (t15 rfl rfl) (by repeat (first | exact .own | exact .rd | apply Blk.there)) (by first | rfl | assumption | simp_all)) ?_
      refine DNew.rd rfl (Rd.move (t18 rfl rfl)) ?_
      refine DNew.rd rfl (Rd.move (t14 rfl rfl)) ?_
      refine DNew.rd rfl (Rd.sIdx Try.runUnderlying47 Try.sizeOf58 (t1 rfl rfl) (t0 rfl) (SIn.ops (by repeat (first | exact .here | apply Take.there))) (by simp) (by omega) (by omega)) ?_
      refine DNew.rd rfl (Rd.sLdA Try.isAgg58 Try.sizeOf58 (t0 rfl) (SIn.ops (by repeat (first | exact .here | apply Take.there))) hx) ?_
      refine DNew.nil ?_
      refine DRun.ef rfl (Ef.call (.cons (t5 rfl rfl) (.cons (t4 rfl rfl) (.cons (t0 rfl) .nil))) (do_any d ra rc rb re (playD (newD (1 + b.toNat % 8)) l k) hwf o hok (by omega) (by omega)) (by repeat (first | exact Sel.nil | apply Sel.cons (by repeat (first | exact .here | apply Take.there)))) ?_)
      rintro ⟨z1, w1, z2, w2⟩ -
      simp only [List.cons_append, List.nil_append]
      refine DRun.at [] [7, 8, 9] rfl rfl ?_ ?_
      · exact .nil
      refine DNew.rd rfl (Rd.move (t0 rfl)) ?_
      refine DNew.rd rfl (Rd.extract (t0 rfl) (by repeat (first | exact .zero | apply Nth.succ))) ?_
      refine DNew.rd rfl (Rd.extract (t1 rfl rfl) (by repeat (first | exact .zero | apply Nth.succ))) ?_
      refine DNew.nil ?_
      refine DRun.ef0 rfl (Ef.stB Try.sizeOf51 (t24 rfl rfl) (t1 rfl rfl) (by repeat (first | exact .here | apply Rep.there)) (by repeat (first | exact .own | exact .rd | apply Blk.there)) (by first | rfl | assumption | simp_all) (by first | rfl | assumption | simp_all) (by first | exact bv_one _ | exact cons_one rfl (bv_one _) | (simp [Value.oneCell']; done) | (simp [Value.oneCell', str]; done)) (by decide) ?_)
      refine DRun.end [9] [11] rfl rfl ?_ ?_
      · refine DCar.rd rfl lk0 (Rd.extract (t2 rfl rfl) (by repeat (first | exact .zero | apply Nth.succ))) ?_
        exact .nil
      refine DNew.rd rfl (Rd.assign (t0 rfl)) ?_
      refine DNew.nil ?_
      refine At.next ?_
      refine J.know (fun h s => dk_wf (Stars.sel (pre := [dk d (doD (playD (newD (1 + b.toNat % 8)) l k) o)]) (by repeat (first | exact Sel.nil | apply Sel.cons (by repeat (first | exact .here | apply Take.there)))) s)) ?_
      intro hwf2
      refine J.region ?_
      refine JL.rd (Rd.move (t0 rfl)) ?_
      refine JL.rd (Rd.move (t0 rfl)) ?_
      refine JL.rdG rfl (EvB (t0 rfl) rfl) rfl (Rd.move (t26 rfl rfl)) ?_
      refine JL.rdG rfl (EvB (t1 rfl rfl) rfl) rfl (Rd.ldB Try.isAgg51 Try.sizeOf51 (t28 rfl rfl) (by repeat (first | exact .own | exact .rd | apply Blk.there)) (by first | rfl | assumption | simp_all)) ?_
      refine JL.efG rfl (EvB (t2 rfl rfl) rfl) rfl (Ef.call (.cons (t1 rfl rfl) (.cons (t0 rfl) .nil)) (view_any d z1 z2 w1 w2 (doD (playD (newD (1 + b.toNat % 8)) l k) o) hwf2) (by repeat (first | exact Sel.nil | apply Sel.cons (by repeat (first | exact .here | apply Take.there)))) ?_)
      rintro - -
      simp only [List.cons_append, List.nil_append]
      refine JL.rd (Rd.pickT (EvB (t3 rfl rfl) rfl) (t0 rfl)) ?_
      refine JL.rd (Rd.assign (t0 rfl)) ?_
      refine JL.nil ?_
      refine At.blkN ?_
      refine At.next ?_
      refine J.live (K := [(7, _), (8, _), (5, _), (6, _), (4, _), (1, _)]) ⟨lk0, (lk29 rfl), (lk31 rfl), (lk32 rfl), (lk33 rfl), (lk34 rfl), trivial⟩ ?_
      intro ρ4
      refine J.region ?_
      refine JL.rd (Rd.move (t1 rfl rfl)) ?_
      refine JL.rd (Rd.add (t0 rfl) Ev.c (w64 (by omega) (by omega))) ?_
      refine JL.rd (Rd.assign (t0 rfl)) ?_
      refine JL.nil ?_
      rw [← playD_succ hlo]
      refine At.again ((k + 1, z1, w1, z2, w2)) ?_ ?_ ⟨lk0.trans (by first | with_reducible rfl | (congr 1; omega) | (simp; done) | (simp [*]; done)), (lk3 rfl).trans (by first | with_reducible rfl | (congr 1; omega) | (simp; done) | (simp [*]; done)), trivial⟩ ⟨(lk5 rfl), (lk6 rfl), (lk7 rfl), (lk8 rfl), trivial⟩ (fun _ => Stars.sel (by repeat (first | exact Sel.nil | apply Sel.cons (by repeat (first | exact .here | apply Take.there)))))
      · exact ⟨by show k + 1 ≤ l.length; omega, by show k + 1 ≤ 30; omega⟩
      · show 30 - (k + 1) < 30 - k; omega
    · intro hb3p hb3
      refine JL.skG rfl (EvB (t0 rfl) hb3) rfl ?_
      refine JL.rd (Rd.pickF (EvB (t1 rfl rfl) hb3) Ev.c) ?_
      refine JL.nil ?_
      refine At.next ?_
      refine J.condF (t0 rfl) ?_
      refine J.exit ?_
      refine At.nextX ?_
      refine At.loopX ?_
      refine At.blkX ?_
      refine At.next ?_
      refine J.seq ?_
      refine J.region ?_
      refine JL.rd (Rd.move (t12 rfl rfl)) ?_
      refine JL.rd (Rd.assign (t0 rfl)) ?_
      refine JL.nil ?_
      refine At.next ?_
      refine J.ret ?_
      exact At.ret (()) (trivial) (ResV.one rfl (t0 rfl)) rfl (fun _ => Stars.sel (by repeat (first | exact Sel.nil | apply Sel.cons (by repeat (first | exact .here | apply Take.there)))))
  · intro hb2p hb2
    refine JL.skG rfl (EvB (t0 rfl) hb2) rfl ?_
    refine JL.skG rfl (EvB (t1 rfl rfl) hb2) rfl ?_
    refine JL.rd (Rd.pickF (EvB (t2 rfl rfl) hb2) Ev.c) ?_
    refine JL.rd (Rd.move (t0 rfl)) ?_
    refine JL.skG rfl (t0 rfl) rfl ?_
    refine JL.rd (Rd.pickF (t1 rfl rfl) Ev.c) ?_
    refine JL.nil ?_
    refine At.next ?_
    refine J.condF (t0 rfl) ?_
    refine J.exit ?_
    refine At.nextX ?_
    refine At.loopX ?_
    refine At.blkX ?_
    refine At.next ?_
    refine J.seq ?_
    refine J.region ?_
    refine JL.rd (Rd.move (t12 rfl rfl)) ?_
    refine JL.rd (Rd.assign (t0 rfl)) ?_
    refine JL.nil ?_
    refine At.next ?_
    refine J.ret ?_
    exact At.ret (()) (trivial) (ResV.one rfl (t0 rfl)) rfl (fun _ => Stars.sel (by repeat (first | exact Sel.nil | apply Sel.cons (by repeat (first | exact .here | apply Take.there)))))
end Go.Proofs.Ytfnoaohbjlnkgaa
