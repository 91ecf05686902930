/-
  Walks, printed by mk.py.
-/
import Derived.Test.YtfnoaohbjlnkgaaD3
namespace Go.Proofs.Ytfnoaohbjlnkgaa
attribute [local irreducible] J JL At Rd Ef DNew DCar DRun Then RetQ LoopQ


set_option maxRecDepth 100000 in
set_option maxHeartbeats 400000 in
theorem damage_any (d : Nat) (D : Dk) (i j : Int) (c : UInt8) :
    Fn Try.prog 36 [.pointer (some ⟨d, 0, none⟩), .int .i64 i, .int .i64 j, .int .u8 (c.toNat : Int)] [dk d D] (X := Unit) (fun _ => True) (fun _ => .int .i64 (damC D i j)) (fun _ => [dk d (damD D i j c)]) := by
  refine Fn.mk' (n := 82) (l := [(0, .pointer (some ⟨d, 0, none⟩)), (1, .int .i64 i), (2, .int .i64 j), (3, .int .u8 (c.toNat : Int))]) (fn := Try.f36) Try.func36 (by kernel_rfl) rfl rfl (by simp) rfl ?_
  intro h0 w0
  refine J.openA dk_open ?_
  rintro ⟨m, mp, a, cap⟩ ⟨hwf, hdur⟩
  simp only [dparts, List.cons_append, List.nil_append]
  have hlen := hwf.plen
  have hn2 := hwf.n2
  refine J.seq ?_
  refine J.region ?_
  refine JL.rd (Rd.assign Ev.c) ?_
  refine JL.nil ?_
  refine At.next ?_
  refine J.seq ?_
  refine J.block ?_
  refine J.seq ?_
  refine J.region ?_
  refine JL.rd (Rd.move (t1 rfl rfl)) ?_
  refine JL.rd (Rd.eqlNil (t0 rfl) Try.runUnderlying23) ?_
  refine JL.rd (Rd.assign (t0 rfl)) ?_
  refine JL.nil ?_
  refine At.next ?_
  refine J.condF (EvB (t0 rfl) rfl) ?_
  refine J.seq ?_
  refine J.region ?_
  refine JL.rd (Rd.move (t5 rfl rfl)) ?_
  refine JL.rd (Rd.lss (t0 rfl) Ev.c) ?_
  refine JL.rd (Rd.move (t0 rfl)) ?_
  refine JL.caseD (t0 rfl) ?_ ?_
  · intro hb1p hb1
    refine JL.skG rfl (EvB (t0 rfl) hb1) rfl ?_
    refine JL.skG rfl (EvB (t1 rfl rfl) hb1) rfl ?_
    refine JL.skG rfl (EvB (t2 rfl rfl) hb1) rfl ?_
    refine JL.skG rfl (EvB (t3 rfl rfl) hb1) rfl ?_
    refine JL.skG rfl (EvB (t4 rfl rfl) hb1) rfl ?_
    refine JL.skG rfl (EvB (t5 rfl rfl) hb1) rfl ?_
    refine JL.rd (Rd.pickT (EvB (t6 rfl rfl) hb1) Ev.c) ?_
    refine JL.rd (Rd.assign (t0 rfl)) ?_
    refine JL.nil ?_
    refine At.next ?_
    refine J.condT (t0 rfl) ?_
    refine J.seq ?_
    refine J.region ?_
    refine JL.rd (Rd.assign Ev.c) ?_
    refine JL.nil ?_
    refine At.next ?_
    refine J.ret ?_
    refine At.blkR ?_
    refine At.nextR ?_
    exact At.ret (()) (trivial) (ResV.one rfl (t0 rfl)) (by show _ = Value.int .i64 (damC D i j); unfold damC; first | (rw [if_pos (by omega)]; done) | (rw [if_neg (by omega), if_pos (by omega)]; done)) (fun _ st => by have hC : damC D i j ≠ 0 := (by unfold damC; first | (rw [if_pos (by omega)]; decide) | (rw [if_neg (by omega), if_pos (by omega)]; decide)); have e : damD D i j c = D := (by simp [damD, hC]); rw [e]; exact dk_shut hwf hdur (Stars.sel (by repeat (first | exact Sel.nil | apply Sel.cons (by repeat (first | exact .here | apply Take.there)))) st))
  · intro hb1p hb1
    refine JL.rdG rfl (EvB (t0 rfl) hb1) rfl (Rd.move (t8 rfl rfl)) ?_
    refine JL.rdG rfl (EvB (t1 rfl rfl) hb1) rfl (Rd.move (t8 rfl rfl)) ?_
    refine JL.rdG rfl (EvB (t2 rfl rfl) hb1) rfl (Rd.nil (t0 rfl)) ?_
    refine JL.rdG rfl (EvB (t3 rfl rfl) hb1) rfl ((by first | exact Rd.fld0 fld_81_0 (t0 rfl) | exact Rd.fldz fld_81_0 (t0 rfl))) ?_
    refine JL.rdG rfl (EvB (t4 rfl rfl) hb1) rfl (Rd.ldN Try.isAgg3 (t0 rfl) (by repeat (first | exact .own | exact .rd | apply Blk.there)) (by repeat (first | exact .zero | apply Nth.succ))) ?_
    refine JL.rdG rfl (EvB (t5 rfl rfl) hb1) rfl (Rd.geq (t4 rfl rfl) (t0 rfl)) ?_
    refine JL.rd (Rd.pickF (EvB (t6 rfl rfl) hb1) (t0 rfl)) ?_
    refine JL.rd (Rd.assign (t0 rfl)) ?_
    refine JL.nil ?_
    refine At.next ?_
    refine J.condD (t0 rfl) ?_ ?_
    · intro hc2
      refine J.seq ?_
      refine J.region ?_
      refine JL.rd (Rd.assign Ev.c) ?_
      refine JL.nil ?_
      refine At.next ?_
      refine J.ret ?_
      refine At.blkR ?_
      refine At.nextR ?_
      exact At.ret (()) (trivial) (ResV.one rfl (t0 rfl)) (by show _ = Value.int .i64 (damC D i j); unfold damC; first | (rw [if_pos (by omega)]; done) | (rw [if_neg (by omega), if_pos (by omega)]; done)) (fun _ st => by have hC : damC D i j ≠ 0 := (by unfold damC; first | (rw [if_pos (by omega)]; decide) | (rw [if_neg (by omega), if_pos (by omega)]; decide)); have e : damD D i j c = D := (by simp [damD, hC]); rw [e]; exact dk_shut hwf hdur (Stars.sel (by repeat (first | exact Sel.nil | apply Sel.cons (by repeat (first | exact .here | apply Take.there)))) st))
    · intro hc2
      refine J.seq ?_
      refine J.region ?_
      refine JL.rd (Rd.move (t17 rfl rfl)) ?_
      refine JL.rd (Rd.lss (t0 rfl) Ev.c) ?_
      refine JL.rd (Rd.move (t0 rfl)) ?_
      refine JL.caseD (t0 rfl) ?_ ?_
      · intro hb3p hb3
        refine JL.skG rfl (EvB (t0 rfl) hb3) rfl ?_
        refine JL.skG rfl (EvB (t1 rfl rfl) hb3) rfl ?_
        refine JL.rd (Rd.pickT (EvB (t2 rfl rfl) hb3) Ev.c) ?_
        refine JL.rd (Rd.assign (t0 rfl)) ?_
        refine JL.nil ?_
        refine At.next ?_
        refine J.condT (t0 rfl) ?_
        refine J.seq ?_
        refine J.region ?_
        refine JL.rd (Rd.assign Ev.c) ?_
        refine JL.nil ?_
        refine At.next ?_
        refine J.ret ?_
        refine At.blkR ?_
        refine At.nextR ?_
        exact At.ret (()) (trivial) (ResV.one rfl (t0 rfl)) (by show _ = Value.int .i64 (damC D i j); unfold damC; first | (rw [if_pos (by omega)]; done) | (rw [if_neg (by omega), if_pos (by omega)]; done)) (fun _ st => by have hC : damC D i j ≠ 0 := (by unfold damC; first | (rw [if_pos (by omega)]; decide) | (rw [if_neg (by omega), if_pos (by omega)]; decide)); have e : damD D i j c = D := (by simp [damD, hC]); rw [e]; exact dk_shut hwf hdur (Stars.sel (by repeat (first | exact Sel.nil | apply Sel.cons (by repeat (first | exact .here | apply Take.there)))) st))
      · intro hb3p hb3
        refine JL.rdG rfl (EvB (t0 rfl) hb3) rfl (Rd.move (t20 rfl rfl)) ?_
        refine JL.rdG rfl (EvB (t1 rfl rfl) hb3) rfl (Rd.geq (t0 rfl) Ev.c) ?_
        refine JL.rd (Rd.pickF (EvB (t2 rfl rfl) hb3) (t0 rfl)) ?_
        refine JL.rd (Rd.assign (t0 rfl)) ?_
        refine JL.nil ?_
        refine At.next ?_
        refine J.condD (t0 rfl) ?_ ?_
        · intro hc4
          refine J.seq ?_
          refine J.region ?_
          refine JL.rd (Rd.assign Ev.c) ?_
          refine JL.nil ?_
          refine At.next ?_
          refine J.ret ?_
          refine At.blkR ?_
          refine At.nextR ?_
          exact At.ret (()) (trivial) (ResV.one rfl (t0 rfl)) (by show _ = Value.int .i64 (damC D i j); unfold damC; first | (rw [if_pos (by omega)]; done) | (rw [if_neg (by omega), if_pos (by omega)]; done)) (fun _ st => by have hC : damC D i j ≠ 0 := (by unfold damC; first | (rw [if_pos (by omega)]; decide) | (rw [if_neg (by omega), if_pos (by omega)]; decide)); have e : damD D i j c = D := (by simp [damD, hC]); rw [e]; exact dk_shut hwf hdur (Stars.sel (by repeat (first | exact Sel.nil | apply Sel.cons (by repeat (first | exact .here | apply Take.there)))) st))
        · intro hc4
          refine J.skip ?_
          refine At.blkN ?_
          refine At.next ?_
          refine J.seq ?_
          obtain ⟨k, rfl⟩ : ∃ k : Nat, i = (k : Int) := ⟨i.toNat, by omega⟩
          obtain ⟨q, rfl⟩ : ∃ q : Nat, j = (q : Int) := ⟨j.toNat, by omega⟩
          have hk : k < D.n := by omega
          have hq : q < 512 := by omega
          have hC := damC_zero (D := D) hk hq
          have hdl := hwf.dur k
          refine J.region ?_
          refine JL.rd (Rd.move (t22 rfl rfl)) ?_
          refine JL.rd (Rd.nil (t0 rfl)) ?_
          refine JL.rd ((by first | exact Rd.fld0 fld_81_1 (t0 rfl) | exact Rd.fld fld_81_1 (t0 rfl))) ?_
          refine JL.rd (Rd.ldN Try.isAgg78 (t0 rfl) (by repeat (first | exact .own | exact .rd | apply Blk.there)) (by repeat (first | exact .zero | apply Nth.succ))) ?_
          refine JL.rd (Rd.move (t27 rfl rfl)) ?_
          refine JL.rd (Rd.lookup (v := .agg (bv (D.dur k)).toArray) Try.runUnderlying78 Try.runUnderlying3 zero0 (t1 rfl rfl) (t0 rfl) (by repeat (first | exact .here | apply Take.there)) (dur_get hdur hk)) ?_
          refine JL.ef (Ef.alloc zero0 rfl ?_)
          intro b5
          refine JL.ef0 (Ef.stB Try.sizeOf84 (t0 rfl) (t1 rfl rfl) (by repeat (first | exact .here | apply Rep.there)) (by repeat (first | exact .own | exact .rd | apply Blk.there)) (by first | rfl | assumption | simp_all) (by first | rfl | assumption | simp_all) (by first | exact bv_one _ | exact cons_one rfl (bv_one _) | (simp [Value.oneCell']; done) | (simp [Value.oneCell', str]; done)) (by decide) ?_)
          refine JL.nil ?_
          refine At.next ?_
          refine J.seq ?_
          refine J.live (K := [(9, _), (8, _), (0, _), (1, _), (2, _), (3, _)]) ⟨lk0, (lk28 rfl), (lk29 rfl), (lk30 rfl), (lk31 rfl), (lk32 rfl), trivial⟩ ?_
          intro ρ6
          refine J.region ?_
          refine JL.rd (Rd.move (t4 rfl rfl)) ?_
          refine JL.rd (Rd.idxA Try.runUnderlying84 Try.sizeOf5 (t1 rfl rfl) (t0 rfl) (by omega) (by omega)) ?_
          simp only [Nat.zero_add, Nat.mul_one, Int.toNat_natCast]
          refine JL.rd (Rd.ld Try.isAgg5 (t0 rfl) (by repeat (first | exact .own | exact .rd | apply Blk.there)) (bv_getD (by omega))) ?_
          refine JL.rd (Rd.move (t8 rfl rfl)) ?_
          refine JL.rd (Rd.xor8 (t1 rfl rfl) (t0 rfl)) ?_
          refine JL.rd (Rd.idxA Try.runUnderlying84 Try.sizeOf5 (t5 rfl rfl) (t4 rfl rfl) (by omega) (by omega)) ?_
          simp only [Nat.zero_add, Nat.mul_one, Int.toNat_natCast]
          refine JL.ef0 (Ef.st (cs' := bv (flipB (D.dur k) q c)) Try.sizeOf5 (t0 rfl) (t1 rfl rfl) rfl (by repeat (first | exact .here | apply Rep.there)) (by repeat (first | exact .own | exact .rd | apply Blk.there)) (by rw [← bv_flip]; exact SetN.of (by simp; omega)) (by simp) ?_)
          refine JL.nil ?_
          refine At.next ?_
          refine J.seq ?_
          refine J.region ?_
          refine JL.rd (Rd.move (t8 rfl rfl)) ?_
          refine JL.rd (Rd.move (t10 rfl rfl)) ?_
          refine JL.rd (Rd.ldB Try.isAgg84 Try.sizeOf84 (t8 rfl rfl) (by repeat (first | exact .own | exact .rd | apply Blk.there)) (by first | rfl | assumption | simp_all)) ?_
          refine JL.ef (Ef.call (.cons (t2 rfl rfl) (.cons (t1 rfl rfl) (.cons (t0 rfl) .nil))) (keep_any (.int .i64 (D.n : Int)) (.slice a D.pend.length cap) (.int .i64 D.ops) (.int .i64 D.lim) (.bool D.down) d m mp (k : Int) (flipB (D.dur k) q c) (by simp [hdl])) (by repeat (first | exact Sel.nil | apply Sel.cons (by repeat (first | exact .here | apply Take.there)))) ?_)
          rintro - -
          simp only [List.cons_append, List.nil_append]
          refine JL.nil ?_
          refine At.next ?_
          refine J.seq ?_
          refine J.seq ?_
          refine J.region ?_
          refine JL.rd (Rd.move (t12 rfl rfl)) ?_
          refine JL.rd (Rd.nil (t0 rfl)) ?_
          refine JL.rd ((by first | exact Rd.fld0 fld_81_2 (t0 rfl) | exact Rd.fld fld_81_2 (t0 rfl))) ?_
          refine JL.rd (Rd.ldN Try.isAgg79 (t0 rfl) (by repeat (first | exact .own | exact .rd | apply Blk.there)) (by repeat (first | exact .zero | apply Nth.succ))) ?_
          refine JL.rd (Rd.len Try.runUnderlying79 (t0 rfl)) ?_
          refine JL.rd (Rd.move Ev.c) ?_
          refine JL.nil ?_
          refine At.next ?_
          refine J.block ?_
          refine J.loop (X := Nat) (fun (x : Nat) => [(53, .int .i64 (x : Int))]) (K := [(52, _), (8, _), (0, _), (1, _), (2, _), (3, _)]) (fun x => [pts d (.cells [.int .i64 D.n, .map (some m), .slice a D.pend.length cap, .int .i64 D.ops, .int .i64 D.lim, .bool D.down].toArray 81), imap m (if flipB (D.dur k) q c = zb then mdel mp (k : Int) else mput mp (k : Int) (.agg (bv (flipB (D.dur k) q c)).toArray)), row a cap 86 513 ((damP D.pend k q c x).map pcell)]) (fun x => x ≤ D.pend.length) (fun x => D.pend.length - x) (0) ?_ ⟨lk0.trans (by first | with_reducible rfl | (congr 1; omega) | (simp; done) | (simp [*]; done)), trivial⟩ ⟨(lk1 rfl), (lk17 rfl), (lk18 rfl), (lk19 rfl), (lk20 rfl), (lk21 rfl), trivial⟩ (fun _ s => by rw [damP_zero]; exact Stars.sel (by repeat (first | exact Sel.nil | apply Sel.cons (by repeat (first | exact .here | apply Take.there)))) s) ?_
          · exact Nat.zero_le _
          intro x ρ hp
          simp only [List.cons_append, List.nil_append]
          refine J.seq ?_
          refine J.region ?_
          refine JL.rd (Rd.lss (t0 rfl) (t1 rfl rfl)) ?_
          refine JL.nil ?_
          refine At.next ?_
          refine J.seq ?_
          refine J.condD (t0 rfl) ?_ ?_
          · intro hc7
            obtain ⟨p, hp⟩ : ∃ p, D.pend[x]? = some p := ⟨_, List.getElem?_eq_getElem (by omega)⟩
            have hpl := (hwf.pend p (List.mem_of_getElem? hp)).2
            have hx : ((damP D.pend k q c x).map pcell)[(x : Int).toNat]? = some (.int .i64 (p.1 : Int) :: bv p.2) := by rw [Int.toNat_natCast, List.getElem?_map, damP_get hp]; rfl
            have hx2 : (x : Int).toNat < ((damP D.pend k q c x).map pcell).length := by simp; omega
            refine J.skip ?_
            refine At.next ?_
            refine J.seq ?_
            refine J.block ?_
            refine J.seq ?_
            refine J.region ?_
            refine JL.rd (Rd.move (t1 rfl rfl)) ?_
            refine JL.rd (Rd.assign (t0 rfl)) ?_
            refine JL.nil ?_
            refine At.next ?_
            refine J.seq ?_
            refine J.region ?_
            refine JL.rd (Rd.move (t6 rfl rfl)) ?_
            refine JL.rd (Rd.nil (t0 rfl)) ?_
            refine JL.rd ((by first | exact Rd.fld0 fld_81_2 (t0 rfl) | exact Rd.fld fld_81_2 (t0 rfl))) ?_
            refine JL.rd (Rd.ldN Try.isAgg79 (t0 rfl) (by repeat (first | exact .own | exact .rd | apply Blk.there)) (by repeat (first | exact .zero | apply Nth.succ))) ?_
            refine JL.rd (Rd.move (t4 rfl rfl)) ?_
            refine JL.rd (Rd.sIdx Try.runUnderlying79 Try.sizeOf86 (t1 rfl rfl) (t0 rfl) (SIn.row (by repeat (first | exact .here | apply Take.there))) (by simp) (by omega) (by omega)) ?_
            refine JL.rd (Rd.sFld0 fld_86_0 (t0 rfl) (SIn.row (by repeat (first | exact .here | apply Take.there))) hx2) ?_
            refine JL.rd (Rd.sLd Try.isAgg3 (t0 rfl) (SIn.row (by repeat (first | exact .here | apply Take.there))) hx rfl) ?_
            refine JL.rd (Rd.move (t15 rfl rfl)) ?_
            refine JL.rd (Rd.eql (t1 rfl rfl) (t0 rfl)) ?_
            refine JL.nil ?_
            refine At.next ?_
            refine J.condD (t0 rfl) ?_ ?_
            · intro hc8
              have he := dam_hit (j := q) (c := c) (i := k) hp (by omega)
              refine J.draw [⟨false, 0, 0⟩, ⟨false, 0, 0⟩, ⟨false, 0, 0⟩, ⟨false, 0, 0⟩, ⟨false, 0, 0⟩, ⟨false, 0, 0⟩, ⟨false, 0, 0⟩, ⟨false, 0, 0⟩, ⟨false, 0, 0⟩, ⟨false, 0, 0⟩, ⟨false, 0, 0⟩, ⟨false, 0, 0⟩, ⟨false, 0, 0⟩, ⟨false, 0, 0⟩, ⟨false, 0, 0⟩, ⟨true, 0, 0⟩] [15] mixed rfl ?_
              refine DRun.at [] [0, 1, 2, 3, 4, 5, 6, 7, 8, 9, 10, 11, 12, 13, 14] rfl rfl ?_ ?_
              · exact .nil
              refine DNew.rd rfl (Rd.move (t16 rfl rfl)) ?_
              refine DNew.rd rfl (Rd.nil (t0 rfl)) ?_
              refine DNew.rd rfl ((by first | exact Rd.fld0 fld_81_2 (t0 rfl) | exact Rd.fld fld_81_2 (t0 rfl))) ?_
              refine DNew.rd rfl (Rd.ldN Try.isAgg79 (t0 rfl) (by repeat (first | exact .own | exact .rd | apply Blk.there)) (by repeat (first | exact .zero | apply Nth.succ))) ?_
              refine DNew.rd rfl (Rd.move (t14 rfl rfl)) ?_
              refine DNew.rd rfl (Rd.move (t23 rfl rfl)) ?_
              refine DNew.rd rfl (Rd.sIdx Try.runUnderlying79 Try.sizeOf86 (t2 rfl rfl) (t1 rfl rfl) (SIn.row (by repeat (first | exact .here | apply Take.there))) (by simp) (by omega) (by omega)) ?_
              refine DNew.rd rfl (Rd.sFld0 fld_86_1 (t0 rfl) (SIn.row (by repeat (first | exact .here | apply Take.there))) hx2) ?_
              refine DNew.rd rfl (Rd.sIdxA Try.runUnderlying84 Try.sizeOf5 (t0 rfl) (t2 rfl rfl) (SIn.row (by repeat (first | exact .here | apply Take.there))) hx2 (by omega) (by omega)) ?_
              refine DNew.rd rfl (Rd.sLd (v := .int .u8 ((p.2.getD q 0).toNat : Int)) Try.isAgg5 (t0 rfl) (SIn.row (by repeat (first | exact .here | apply Take.there))) hx (by rw [Int.toNat_natCast, Nat.add_comm 1 q, List.getElem?_cons_succ]; exact bv_getD (by omega))) ?_
              refine DNew.rd rfl (Rd.move (t29 rfl rfl)) ?_
              refine DNew.rd rfl (Rd.xor8 (t1 rfl rfl) (t0 rfl)) ?_
              refine DNew.rd rfl (Rd.sIdx Try.runUnderlying79 Try.sizeOf86 (t8 rfl rfl) (t7 rfl rfl) (SIn.row (by repeat (first | exact .here | apply Take.there))) (by simp) (by omega) (by omega)) ?_
              refine DNew.rd rfl (Rd.sFld0 fld_86_1 (t0 rfl) (SIn.row (by repeat (first | exact .here | apply Take.there))) hx2) ?_
              refine DNew.rd rfl (Rd.sIdxA Try.runUnderlying84 Try.sizeOf5 (t0 rfl) (t8 rfl rfl) (SIn.row (by repeat (first | exact .here | apply Take.there))) hx2 (by omega) (by omega)) ?_
              refine DNew.nil ?_
              refine DRun.ef0 rfl (Ef.sSt Try.sizeOf5 (t0 rfl) (t3 rfl rfl) rfl (by repeat (first | exact .here | apply Take.there)) hx (by omega) (by simp [hpl]) ?_)
              simp only [Int.toNat_natCast]
              refine DRun.end [] [] rfl rfl ?_ ?_
              · exact .nil
              refine DNew.nil ?_
              refine At.blkN ?_
              refine At.next ?_
              refine J.live (K := [(53, _), (52, _), (8, _), (0, _), (1, _), (2, _), (3, _)]) ⟨(lk28 rfl), (lk29 rfl), (lk30 rfl), (lk31 rfl), (lk32 rfl), (lk33 rfl), (lk34 rfl), trivial⟩ ?_
              intro ρ9
              refine J.region ?_
              refine JL.rd (Rd.add (t0 rfl) Ev.c (w64 (by omega) (by omega))) ?_
              refine JL.rd (Rd.move (t0 rfl)) ?_
              refine JL.nil ?_
              first | rw [he] | rw [← he]
              refine At.again (x + 1) ?_ ?_ ⟨lk0.trans (by first | with_reducible rfl | (congr 1; omega) | (simp; done) | (simp [*]; done)), trivial⟩ ⟨(lk3 rfl), (lk4 rfl), (lk5 rfl), (lk6 rfl), (lk7 rfl), (lk8 rfl), trivial⟩ (fun _ => Stars.sel (by repeat (first | exact Sel.nil | apply Sel.cons (by repeat (first | exact .here | apply Take.there)))))
              · omega
              · omega
            · intro hc8
              have he := dam_miss (j := q) (c := c) (i := k) hp (by omega)
              refine J.skip ?_
              refine At.blkN ?_
              refine At.next ?_
              refine J.region ?_
              refine JL.rd (Rd.add (t13 rfl rfl) Ev.c (w64 (by omega) (by omega))) ?_
              refine JL.rd (Rd.move (t0 rfl)) ?_
              refine JL.nil ?_
              first | rw [he] | rw [← he]
              refine At.again (x + 1) ?_ ?_ ⟨lk0.trans (by first | with_reducible rfl | (congr 1; omega) | (simp; done) | (simp [*]; done)), trivial⟩ ⟨(lk16 rfl), (lk17 rfl), (lk18 rfl), (lk19 rfl), (lk20 rfl), (lk21 rfl), trivial⟩ (fun _ => Stars.sel (by repeat (first | exact Sel.nil | apply Sel.cons (by repeat (first | exact .here | apply Take.there)))))
              · omega
              · omega
          · intro hc7
            obtain rfl : x = D.pend.length := by omega
            refine J.exit ?_
            refine At.nextX ?_
            refine At.loopX ?_
            refine At.blkX ?_
            refine At.next ?_
            refine J.seq ?_
            refine J.region ?_
            refine JL.rd (Rd.assign Ev.c) ?_
            refine JL.nil ?_
            refine At.next ?_
            refine J.ret ?_
            exact At.ret (()) (trivial) (ResV.one rfl (t0 rfl)) (by rw [hC]) (fun _ st => by have e : damD D k q c = D.damaged k q c := (by simp [damD, hC]); rw [e]; have s1 := Stars.sel (pre := [pts d (.cells [.int .i64 D.n, .map (some m), .slice a D.pend.length cap, .int .i64 D.ops, .int .i64 D.lim, .bool D.down].toArray 81), imap m (if flipB (D.dur k) q c = zb then mdel mp (k : Int) else mput mp (k : Int) (.agg (bv (flipB (D.dur k) q c)).toArray)), row a cap 86 513 ((damP D.pend k q c D.pend.length).map pcell)]) (by repeat (first | exact Sel.nil | apply Sel.cons (by repeat (first | exact .here | apply Take.there)))) st; exact dam_shut hwf (dur_keep hdur hk _) s1)
end Go.Proofs.Ytfnoaohbjlnkgaa
