/-
  Walks, printed by mk.py.
-/
import Derived.Test.YtfnoaohbjlnkgaaR3
namespace Go.Proofs.Ytfnoaohbjlnkgaa
attribute [local irreducible] J JL At Rd Ef DNew DCar DRun Then RetQ LoopQ


set_option maxRecDepth 100000 in
set_option maxHeartbeats 400000 in
theorem flip_any (s : List UInt8) (j : Int) (c : UInt8) (h0 : 0 ≤ j) (h1 : j < s.length) (h2 : s.length < 1073741824) :
    Fn Try.prog 60 [str s, .int .i64 j, .int .u8 (c.toNat : Int)] [] (X := Unit) (fun _ => True) (fun _ => str (flipB s j.toNat c)) (fun _ => []) := by
  refine Fn.mk' (n := 23) (l := [(0, str s), (1, .int .i64 j), (2, .int .u8 (c.toNat : Int))]) (fn := Try.f60) Try.func60 (by kernel_rfl) rfl rfl (by simp) rfl ?_
  intro h0 w0
  refine J.seq ?_
  refine J.region ?_
  refine JL.rd (Rd.assign Ev.c) ?_
  refine JL.nil ?_
  refine At.next ?_
  refine J.seq ?_
  refine J.draw [⟨false, 0, 1⟩, ⟨false, 0, 1⟩, ⟨false, 0, 1⟩, ⟨false, 0, 0⟩, ⟨false, 0, 0⟩, ⟨false, 0, 0⟩, ⟨false, 0, 0⟩, ⟨false, 0, 0⟩, ⟨true, 0, 0⟩, ⟨false, 1, 1⟩, ⟨false, 1, 1⟩, ⟨false, 0, 1⟩, ⟨false, 0, 1⟩, ⟨false, 0, 1⟩, ⟨false, 0, 1⟩, ⟨false, 1, 1⟩, ⟨false, 1, 1⟩] [8] mixed rfl ?_
  refine DRun.at [] [0, 1, 2, 3, 4, 5, 6, 7, 11, 12, 13, 14] rfl rfl ?_ ?_
  · exact .nil
  refine DNew.rd rfl (Rd.move (t1 rfl rfl)) ?_
  refine DNew.rd rfl (Rd.move (t3 rfl rfl)) ?_
  refine DNew.rd rfl (Rd.strTo Try.runUnderlying9 (t1 rfl rfl) (t0 rfl) (by first | (simp; done) | (simp; omega) | omega | (simp [*]; done)) (by first | (simp; done) | (simp; omega) | omega | (simp [*]; done))) ?_
  refine DNew.rd rfl (Rd.move (t4 rfl rfl)) ?_
  refine DNew.rd rfl (Rd.move (t6 rfl rfl)) ?_
  refine DNew.rd rfl (Rd.strIdx Try.runUnderlying9 (t1 rfl rfl) (t0 rfl) (by omega) (by omega)) ?_
  refine DNew.rd rfl (Rd.move (t9 rfl rfl)) ?_
  refine DNew.rd rfl (Rd.xor8 (t1 rfl rfl) (t0 rfl)) ?_
  refine DNew.rd rfl (Rd.move (t9 rfl rfl)) ?_
  refine DNew.rd rfl (Rd.move (t11 rfl rfl)) ?_
  refine DNew.rd rfl (Rd.add (t0 rfl) Ev.c (w64 (by omega) (by omega))) ?_
  refine DNew.rd rfl (Rd.strFrom Try.runUnderlying9 (t2 rfl rfl) (t0 rfl) (by first | (simp; done) | (simp; omega) | omega | (simp [*]; done)) (by first | (simp; done) | (simp; omega) | omega | (simp [*]; done))) ?_
  refine DNew.nil ?_
  refine DRun.ef rfl (Ef.byLit1 (c := _) elt_28 (t4 rfl rfl) ?_)
  intro b2
  refine DRun.end [0, 1, 2, 11, 12, 13, 14] [9, 10, 15, 16] rfl rfl ?_ ?_
  · refine DCar.rd rfl (lk12 rfl) (Rd.move (t14 rfl rfl)) ?_
    refine DCar.rd rfl (lk11 rfl) (Rd.move (t15 rfl rfl)) ?_
    refine DCar.rd rfl (lk10 rfl) (Rd.strTo Try.runUnderlying9 (t12 rfl rfl) (t11 rfl rfl) (by first | (simp; done) | (simp; omega) | omega | (simp [*]; done)) (by first | (simp; done) | (simp; omega) | omega | (simp [*]; done))) ?_
    refine DCar.rd rfl (lk4 rfl) (Rd.move (t14 rfl rfl)) ?_
    refine DCar.rd rfl (lk3 rfl) (Rd.move (t15 rfl rfl)) ?_
    refine DCar.rd rfl (lk2 rfl) (Rd.add (t3 rfl rfl) Ev.c (w64 (by omega) (by omega))) ?_
    refine DCar.rd rfl (lk1 rfl) (Rd.strFrom Try.runUnderlying9 (t4 rfl rfl) (t2 rfl rfl) (by first | (simp; done) | (simp; omega) | omega | (simp [*]; done)) (by first | (simp; done) | (simp; omega) | omega | (simp [*]; done))) ?_
    exact .nil
  refine DNew.rd rfl (Rd.byStr Try.underlying28 Try.underlying5 Try.underlying9 (t0 rfl) (by first | (apply SIn.bytes; (repeat (first | exact .here | apply Take.there)); done) | (apply SIn.rowR; (repeat (first | exact .here | apply Take.there)); done) | (apply hA; (repeat (first | exact .here | apply Take.there)); done)) (by first | (simp; done) | (simp; omega) | omega | (simp [*]; done))) ?_
  refine DNew.rd rfl (Rd.str_add (t11 rfl rfl) (t0 rfl) (by first | (simp; done) | (simp; omega) | omega | (simp [*]; done))) ?_
  refine DNew.rd rfl (Rd.str_add (t0 rfl) (t3 rfl rfl) (by first | (simp; done) | (simp; omega) | omega | (simp [*]; done))) ?_
  refine DNew.rd rfl (Rd.assign (t0 rfl)) ?_
  refine DNew.nil ?_
  refine At.next ?_
  refine J.ret ?_
  exact At.ret (()) (trivial) (ResV.one rfl (t0 rfl)) (by have e : (j + 1).toNat = j.toNat + 1 := (by omega); rw [e, flipB_eq (by omega)]) (fun _ => Stars.sel (by repeat (first | exact Sel.nil | apply Sel.cons (by repeat (first | exact .here | apply Take.there)))))

set_option maxRecDepth 100000 in
set_option maxHeartbeats 400000 in
theorem rrestart_any (r1 r2 : Option Addr) (k1 k2 : Nat) (D : Dk) (hwf : D.wf) (a : Option Addr) (n cap : Nat) (cs : List UInt8) (hcn : cs.length = n) (A : Assn) (hA : ∀ {hs hs1 : List Assn}, Take A hs hs1 → SIn hs a 1 (b1s cs)) :
    Fn Try.prog 49 [refV r1 k1 r2 k2 D, .slice a n cap] [rowR r1 1 (durs D.n D.dur), rowR r2 2 (D.pend.map wcell), A] (X := Option Addr × Nat × Option Addr × Nat) (fun _ => True) (fun x => .tuple #[refV x.1 x.2.1 x.2.2.1 x.2.2.2 (backD D cs), .int .i64 (backC D)]) (fun x => [rowR x.1 1 (durs (backD D cs).n (backD D cs).dur), rowR x.2.2.1 2 ((backD D cs).pend.map wcell), A]) := by
  refine Fn.mk' (n := 72) (l := [(0, refV r1 k1 r2 k2 D), (1, .slice a n cap)]) (fn := Try.f49) Try.func49 (by kernel_rfl) rfl rfl (by simp) rfl ?_
  intro h0 w0
  have hlen := hwf.plen
  have hn2 := hwf.n2
  have hn1 := hwf.n1
  refine J.seq ?_
  refine J.region ?_
  refine JL.ef (Ef.box (t0 rfl) rfl ?_)
  intro b1
  refine JL.ef (Ef.alloc Try.zeroValue51 rfl ?_)
  intro b2
  refine JL.rd (Rd.assign Ev.c) ?_
  refine JL.nil ?_
  refine At.next ?_
  refine J.seq ?_
  refine J.seq ?_
  refine J.region ?_
  refine JL.rd ((by first | exact Rd.fld0 fld_51_3 (t2 rfl rfl) | exact Rd.fld fld_51_3 (t2 rfl rfl))) ?_
  refine JL.rd (Rd.ldN Try.isAgg4 (t0 rfl) (by repeat (first | exact .own | exact .rd | apply Blk.there)) (by repeat (first | exact .zero | apply Nth.succ))) ?_
  refine JL.rd (Rd.not (t0 rfl)) ?_
  refine JL.nil ?_
  refine At.next ?_
  refine J.cond (t0 rfl) ?_ ?_
  · intro hc3
    have hdn : D.down = false := by simpa using hc3
    have hW : backD D cs = D := by simp [backD, hdn]
    have hC : backC D = 10 := by simp [backC, hdn]
    refine J.seq ?_
    refine J.region ?_
    refine JL.rd (Rd.ldB Try.isAgg51 Try.sizeOf51 (t5 rfl rfl) (by repeat (first | exact .own | exact .rd | apply Blk.there)) (by first | rfl | assumption | simp_all)) ?_
    refine JL.ef0 (Ef.stB Try.sizeOf51 (t5 rfl rfl) (t0 rfl) (by repeat (first | exact .here | apply Rep.there)) (by repeat (first | exact .own | exact .rd | apply Blk.there)) (by first | rfl | assumption | simp_all) (by first | rfl | assumption | simp_all) (by first | exact bv_one _ | exact cons_one rfl (bv_one _) | (simp [Value.oneCell']; done) | (simp [Value.oneCell', str]; done)) (by decide) ?_)
    refine JL.rd (Rd.assign Ev.c) ?_
    refine JL.nil ?_
    refine At.next ?_
    refine J.ret ?_
    refine At.nextR ?_
    exact At.ret ((r1, k1, r2, k2)) (trivial) (ResV.many (rs := [.cell 4 51, .tmp 5]) rfl (.agg Try.isAgg51 Try.sizeOf51 (t6 rfl rfl) (by repeat (first | exact .own | exact .rd | apply Blk.there)) (by first | rfl | assumption | simp_all) (.tmp (t0 rfl) .nil)) (by simp)) (by rw [hW, hC]) (fun _ st => by rw [hW]; exact Stars.sel (by repeat (first | exact Sel.nil | apply Sel.cons (by repeat (first | exact .here | apply Take.there)))) st)
  · intro hc3
    have hdn : D.down = true := by simpa using hc3
    have hW : backD D cs = D.restarted cs := by simp [backD, hdn]
    have hC : backC D = 0 := by simp [backC, hdn]
    refine J.skip ?_
    refine At.next ?_
    refine J.seq ?_
    refine J.region ?_
    refine JL.ef (Ef.slit0 elt_48 ?_)
    intro b4
    refine JL.rd ((by first | exact Rd.fld0 fld_51_0 (t6 rfl rfl) | exact Rd.fldz fld_51_0 (t6 rfl rfl))) ?_
    refine JL.rd (Rd.ldN Try.isAgg48 (t0 rfl) (by repeat (first | exact .own | exact .rd | apply Blk.there)) (by repeat (first | exact .zero | apply Nth.succ))) ?_
    refine JL.ef (Ef.appS elt_48 (t2 rfl rfl) (t0 rfl) (by repeat (first | exact .here | apply Take.there)) (by first | (apply SIn.row; (repeat (first | exact .here | apply Take.there)); done) | (apply SIn.rowR; (repeat (first | exact .here | apply Take.there)); done) | (apply SIn.bytes; (repeat (first | exact .here | apply Take.there)); done) | (apply hA; (repeat (first | exact .here | apply Take.there)); done)) (by first | (simp; done) | (simp; omega) | omega | (simp [*]; done)) (by first | (simp; done) | (simp; omega) | omega | (simp [*]; done)) dur_one (by first | omega | (simp; omega)) (by first | (simp only [maxLen]; omega) | (simp [maxLen]; omega)) ?_)
    intro a5 c6
    refine JL.rd ((by first | exact Rd.fld0 fld_51_0 (t9 rfl rfl) | exact Rd.fldz fld_51_0 (t9 rfl rfl))) ?_
    refine JL.ef0 (Ef.st Try.sizeOf48 (t0 rfl) (t1 rfl rfl) rfl (by repeat (first | exact .here | apply Rep.there)) (by repeat (first | exact .own | exact .rd | apply Blk.there)) (by repeat (first | exact .zero | apply SetN.succ)) (by first | rfl | simp) ?_)
    refine JL.nil ?_
    refine At.next ?_
    refine J.seq ?_
    refine J.seq ?_
    refine J.region ?_
    refine JL.rd (Rd.assign Ev.c) ?_
    refine JL.nil ?_
    refine At.next ?_
    refine J.block ?_
    refine J.loop (X := Nat) (fun (x : Nat) => [(6, .int .i64 (x : Int))]) (K := [(5, _), (4, _), (2, _), (1, _)]) (fun x => [pts b1 (.cells [Value.slice a5 D.n c6, .slice r2 D.pend.length k2, .int .i64 D.lim, .bool D.down, .int .i64 D.ops].toArray 51), row a5 c6 9 1 (durs D.n (D.back cs x)), rowR r2 2 (D.pend.map wcell), A, pts b2 (.cells [Value.slice none 0 0, .slice none 0 0, .int .i64 0, .bool false, .int .i64 0].toArray 51)]) (fun x => x ≤ D.pend.length) (fun x => D.pend.length - x) (0) ?_ ⟨lk0.trans (by first | with_reducible rfl | (congr 1; omega) | (simp; done) | (simp [*]; done)), trivial⟩ ⟨(lk9 rfl), (lk10 rfl), (lk11 rfl), (lk13 rfl), trivial⟩ (fun _ s => by simp only [Nat.zero_add, List.nil_append] at s; exact Stars.sel (by repeat (first | exact Sel.nil | apply Sel.cons (by repeat (first | exact .here | apply Take.there)))) s) ?_
    · exact Nat.zero_le _
    intro x ρ hp
    simp only [List.cons_append, List.nil_append]
    refine J.seq ?_
    refine J.seq ?_
    refine J.region ?_
    refine JL.rd (Rd.move (t0 rfl)) ?_
    refine JL.rd ((by first | exact Rd.fld0 fld_51_1 (t4 rfl rfl) | exact Rd.fld fld_51_1 (t4 rfl rfl))) ?_
    refine JL.rd (Rd.ldN Try.isAgg49 (t0 rfl) (by repeat (first | exact .own | exact .rd | apply Blk.there)) (by repeat (first | exact .zero | apply Nth.succ))) ?_
    refine JL.rd (Rd.len Try.runUnderlying49 (t0 rfl)) ?_
    refine JL.rd (Rd.lss (t3 rfl rfl) (t0 rfl)) ?_
    refine JL.nil ?_
    refine At.next ?_
    refine J.condD (t0 rfl) ?_ ?_
    · intro hc7
      obtain ⟨p, hp⟩ : ∃ p, D.pend[x]? = some p := ⟨_, List.getElem?_eq_getElem (by omega)⟩
      have hx : (D.pend.map wcell)[(x : Int).toNat]? = some [.int .i64 (p.1 : Int), str p.2] := by rw [Int.toNat_natCast]; exact wcells_get hp
      have hx2 : (x : Int).toNat < (D.pend.map wcell).length := by simp; omega
      have hpl := hwf.pend p (List.mem_of_getElem? hp)
      have hpl1 := hpl.1
      have hpl2 := hpl.2
      have hdg := durs_get (dur := D.back cs x) hpl1
      have hbl := hwf.back cs x p.1
      have hcl := (cs.getD x 0).toNat_lt
      refine J.skip ?_
      refine At.next ?_
      refine J.seq ?_
      refine J.block ?_
      refine J.seq ?_
      refine J.region ?_
      refine JL.rd (Rd.assign Ev.c) ?_
      refine JL.nil ?_
      refine At.next ?_
      refine J.seq ?_
      refine J.seq ?_
      refine J.region ?_
      refine JL.rd (Rd.move (t6 rfl rfl)) ?_
      refine JL.rd (Rd.move (t11 rfl rfl)) ?_
      refine JL.rd (Rd.len Try.runUnderlying28 (t0 rfl)) ?_
      refine JL.rd (Rd.lss (t2 rfl rfl) (t0 rfl)) ?_
      refine JL.nil ?_
      refine At.next ?_
      refine J.condD (t0 rfl) ?_ ?_
      · intro hc8
        refine J.region ?_
        refine JL.rd (Rd.move (t14 rfl rfl)) ?_
        refine JL.rd (Rd.move (t11 rfl rfl)) ?_
        refine JL.rd (Rd.byIdx Try.runUnderlying28 Try.sizeOf5 (t1 rfl rfl) (t0 rfl) (by first | (apply SIn.bytes; (repeat (first | exact .here | apply Take.there)); done) | (apply SIn.rowR; (repeat (first | exact .here | apply Take.there)); done) | (apply hA; (repeat (first | exact .here | apply Take.there)); done)) (by first | (simp; done) | (simp; omega) | omega | (simp [*]; done)) (by omega) (by omega)) ?_
        refine JL.rd (Rd.byLd Try.isAgg5 (t0 rfl) (by first | (apply SIn.bytes; (repeat (first | exact .here | apply Take.there)); done) | (apply SIn.rowR; (repeat (first | exact .here | apply Take.there)); done) | (apply hA; (repeat (first | exact .here | apply Take.there)); done)) (by first | (simp; done) | (simp; omega) | omega | (simp [*]; done))) ?_
        simp only [Int.toNat_natCast]
        refine JL.rd (Rd.conv (t0 rfl) (fun w => ⟨_, Try.runUnderlying5 w⟩) Try.runUnderlying3 (w64 (by omega) (by omega))) ?_
        refine JL.rd (Rd.assign (t0 rfl)) ?_
        refine JL.nil ?_
        refine At.next ?_
        refine J.seq ?_
        refine J.region ?_
        refine JL.rd (Rd.assign Ev.c) ?_
        refine JL.nil ?_
        refine At.next ?_
        refine J.seq ?_
        refine J.seq ?_
        refine J.region ?_
        refine JL.rd (Rd.move (t1 rfl rfl)) ?_
        refine JL.rd (Rd.rem (t0 rfl) Ev.c (by omega) (by omega)) ?_
        refine JL.rd (Rd.eql (t0 rfl) Ev.c) ?_
        refine JL.nil ?_
        refine At.next ?_
        refine J.condD (t0 rfl) ?_ ?_
        · intro hc9
          refine J.region ?_
          refine JL.rd (Rd.assign Ev.c) ?_
          refine JL.nil ?_
          refine At.next ?_
          refine J.seq ?_
          refine J.seq ?_
          refine J.region ?_
          refine JL.rd (Rd.move (t5 rfl rfl)) ?_
          refine JL.rd (Rd.rem (t0 rfl) Ev.c (by omega) (by omega)) ?_
          refine JL.rd (Rd.eql (t0 rfl) Ev.c) ?_
          refine JL.nil ?_
          refine At.next ?_
          refine J.condD (t0 rfl) ?_ ?_
          · intro hc10
            refine J.live (K := [(8, _), (7, _), (6, _), (5, _), (4, _), (2, _), (1, _)]) ⟨(lk3 rfl), (lk8 rfl), (lk24 rfl), (lk25 rfl), (lk26 rfl), (lk27 rfl), (lk28 rfl), trivial⟩ ?_
            intro ρ11
            refine J.region ?_
            refine JL.rd (Rd.move (t1 rfl rfl)) ?_
            refine JL.rd (Rd.quo (t0 rfl) Ev.c (by omega) (by omega) (w64 (by omega) (by omega))) ?_
            refine JL.rd (Rd.rem (t0 rfl) Ev.c (by omega) (by omega)) ?_
            refine JL.rd (Rd.mul (t0 rfl) Ev.c (w64 (by omega) (by omega))) ?_
            refine JL.rd (Rd.assign (t0 rfl)) ?_
            refine JL.nil ?_
            refine At.next ?_
            refine J.seq ?_
            refine J.region ?_
            refine JL.rd ((by first | exact Rd.fld0 fld_51_1 (t10 rfl rfl) | exact Rd.fld fld_51_1 (t10 rfl rfl))) ?_
            refine JL.rd (Rd.ldN Try.isAgg49 (t0 rfl) (by repeat (first | exact .own | exact .rd | apply Blk.there)) (by repeat (first | exact .zero | apply Nth.succ))) ?_
            refine JL.rd (Rd.move (t9 rfl rfl)) ?_
            refine JL.rd (Rd.sIdx Try.runUnderlying49 Try.sizeOf65 (t1 rfl rfl) (t0 rfl) (SIn.rowR (by repeat (first | exact .here | apply Take.there))) (by simp) (by omega) (by omega)) ?_
            refine JL.rd (Rd.sLdA Try.isAgg65 Try.sizeOf65 (t0 rfl) (SIn.rowR (by repeat (first | exact .here | apply Take.there))) hx) ?_
            refine JL.ef (Ef.alloc Try.zeroValue65 rfl ?_)
            intro b12
            refine JL.ef0 (Ef.stB Try.sizeOf65 (t0 rfl) (t1 rfl rfl) (by repeat (first | exact .here | apply Rep.there)) (by repeat (first | exact .own | exact .rd | apply Blk.there)) (by first | rfl | assumption | simp_all) (by first | rfl | assumption | simp_all) (by first | exact bv_one _ | exact cons_one rfl (bv_one _) | (simp [Value.oneCell']; done) | (simp [Value.oneCell', str]; done)) (by decide) ?_)
            refine JL.nil ?_
            refine At.next ?_
            refine J.draw [⟨false, 0, 0⟩, ⟨false, 0, 0⟩, ⟨false, 0, 0⟩, ⟨false, 0, 0⟩, ⟨false, 0, 0⟩, ⟨false, 0, 0⟩, ⟨false, 0, 0⟩, ⟨false, 0, 0⟩, ⟨false, 0, 0⟩, ⟨false, 0, 0⟩, ⟨false, 0, 0⟩, ⟨false, 0, 0⟩, ⟨false, 0, 0⟩, ⟨false, 0, 0⟩, ⟨false, 0, 0⟩, ⟨false, 0, 0⟩, ⟨false, 0, 0⟩, ⟨false, 0, 0⟩, ⟨true, 0, 0⟩] [18] mixed rfl ?_
            refine DRun.at [] [0, 1, 2, 3, 4, 5, 6, 7, 8, 9, 10, 11, 12, 13, 14, 15, 16, 17] rfl rfl ?_ ?_
            · exact .nil
            refine DNew.rd rfl ((by first | exact Rd.fld0 fld_51_0 (t16 rfl rfl) | exact Rd.fldz fld_51_0 (t16 rfl rfl))) ?_
            refine DNew.rd rfl (Rd.ldN Try.isAgg48 (t0 rfl) (by repeat (first | exact .own | exact .rd | apply Blk.there)) (by repeat (first | exact .zero | apply Nth.succ))) ?_
            refine DNew.rd rfl ((by first | exact Rd.fld0 fld_65_0 (t2 rfl rfl) | exact Rd.fldz fld_65_0 (t2 rfl rfl))) ?_
            refine DNew.rd rfl (Rd.ldN Try.isAgg3 (t0 rfl) (by repeat (first | exact .own | exact .rd | apply Blk.there)) (by repeat (first | exact .zero | apply Nth.succ))) ?_
            refine DNew.rd rfl ((by first | exact Rd.fld0 fld_65_1 (t4 rfl rfl) | exact Rd.fld fld_65_1 (t4 rfl rfl))) ?_
            refine DNew.rd rfl (Rd.ldN Try.isAgg9 (t0 rfl) (by repeat (first | exact .own | exact .rd | apply Blk.there)) (by repeat (first | exact .zero | apply Nth.succ))) ?_
            refine DNew.rd rfl (Rd.move (t12 rfl rfl)) ?_
            refine DNew.rd rfl (Rd.strTo Try.runUnderlying9 (t1 rfl rfl) (t0 rfl) (by first | (simp; done) | (simp; omega) | omega | (simp [*]; done)) (by first | (simp; done) | (simp; omega) | omega | (simp [*]; done))) ?_
            refine DNew.rd rfl ((by first | exact Rd.fld0 fld_51_0 (t24 rfl rfl) | exact Rd.fldz fld_51_0 (t24 rfl rfl))) ?_
            refine DNew.rd rfl (Rd.ldN Try.isAgg48 (t0 rfl) (by repeat (first | exact .own | exact .rd | apply Blk.there)) (by repeat (first | exact .zero | apply Nth.succ))) ?_
            refine DNew.rd rfl ((by first | exact Rd.fld0 fld_65_0 (t10 rfl rfl) | exact Rd.fldz fld_65_0 (t10 rfl rfl))) ?_
            refine DNew.rd rfl (Rd.ldN Try.isAgg3 (t0 rfl) (by repeat (first | exact .own | exact .rd | apply Blk.there)) (by repeat (first | exact .zero | apply Nth.succ))) ?_
            refine DNew.rd rfl (Rd.sIdx Try.runUnderlying48 Try.sizeOf9 (t2 rfl rfl) (t0 rfl) (SIn.row (by repeat (first | exact .here | apply Take.there))) (by simp) (by omega) (by omega)) ?_
            refine DNew.rd rfl (Rd.sLd Try.isAgg9 (t0 rfl) (SIn.row (by repeat (first | exact .here | apply Take.there))) (by rw [Int.toNat_natCast]; exact hdg) rfl) ?_
            refine DNew.rd rfl (Rd.move (t20 rfl rfl)) ?_
            refine DNew.rd rfl (Rd.strFrom Try.runUnderlying9 (t1 rfl rfl) (t0 rfl) (by first | (simp; done) | (simp; omega) | omega | (simp [*]; done)) (by first | (simp; done) | (simp; omega) | omega | (simp [*]; done))) ?_
            refine DNew.rd rfl (Rd.str_add (t8 rfl rfl) (t0 rfl) (by first | (simp; done) | (simp; omega) | omega | (simp [*]; done))) ?_
            refine DNew.rd rfl (Rd.sIdx Try.runUnderlying48 Try.sizeOf9 (t15 rfl rfl) (t13 rfl rfl) (SIn.row (by repeat (first | exact .here | apply Take.there))) (by simp) (by omega) (by omega)) ?_
            refine DNew.nil ?_
            refine DRun.ef0 rfl (Ef.sSt Try.sizeOf9 (t0 rfl) (t1 rfl rfl) rfl (by repeat (first | exact .here | apply Take.there)) (by rw [Int.toNat_natCast]; exact hdg) (by decide) rfl ?_)
            refine DRun.end [] [] rfl rfl ?_ ?_
            · exact .nil
            refine DNew.nil ?_
            refine At.blkN ?_
            refine At.next ?_
            refine J.live (K := [(6, _), (5, _), (4, _), (2, _), (1, _)]) ⟨(lk31 rfl), (lk32 rfl), (lk33 rfl), (lk34 rfl), (lk35 rfl), trivial⟩ ?_
            intro ρ13
            refine J.region ?_
            refine JL.rd (Rd.move (t0 rfl)) ?_
            refine JL.rd (Rd.add (t0 rfl) Ev.c (w64 (by omega) (by omega))) ?_
            refine JL.rd (Rd.assign (t0 rfl)) ?_
            refine JL.nil ?_
            have hK : ∀ K : Int, K = (fateN (cs.getD x 0) : Int) → (durs D.n (D.back cs x)).set (p.1 : Int).toNat ([str (D.back cs x p.1)].set 0 (str (p.2.take K.toNat ++ (D.back cs x p.1).drop K.toNat))) = durs D.n (D.back cs (x + 1)) := fun K e => by rw [e, Dk.back_succ hp]; exact durs_set hpl1
            rw [hK _ (by unfold fateN; split <;> (try split) <;> omega)]
            refine At.again (x + 1) ?_ ?_ ⟨lk0.trans (by first | with_reducible rfl | (congr 1; omega) | (simp; done) | (simp [*]; done)), trivial⟩ ⟨(lk4 rfl), (lk5 rfl), (lk6 rfl), (lk7 rfl), trivial⟩ (fun _ => Stars.sel (by repeat (first | exact Sel.nil | apply Sel.cons (by repeat (first | exact .here | apply Take.there)))))
            · omega
            · omega
          · intro hc10
            refine J.skip ?_
            refine At.next ?_
            refine J.seq ?_
            refine J.live (K := [(8, _), (6, _), (5, _), (4, _), (2, _), (1, _)]) ⟨(lk3 rfl), (lk24 rfl), (lk25 rfl), (lk26 rfl), (lk27 rfl), (lk28 rfl), trivial⟩ ?_
            intro ρ14
            refine J.region ?_
            refine JL.rd ((by first | exact Rd.fld0 fld_51_1 (t4 rfl rfl) | exact Rd.fld fld_51_1 (t4 rfl rfl))) ?_
            refine JL.rd (Rd.ldN Try.isAgg49 (t0 rfl) (by repeat (first | exact .own | exact .rd | apply Blk.there)) (by repeat (first | exact .zero | apply Nth.succ))) ?_
            refine JL.rd (Rd.move (t3 rfl rfl)) ?_
            refine JL.rd (Rd.sIdx Try.runUnderlying49 Try.sizeOf65 (t1 rfl rfl) (t0 rfl) (SIn.rowR (by repeat (first | exact .here | apply Take.there))) (by simp) (by omega) (by omega)) ?_
            refine JL.rd (Rd.sLdA Try.isAgg65 Try.sizeOf65 (t0 rfl) (SIn.rowR (by repeat (first | exact .here | apply Take.there))) hx) ?_
            refine JL.ef (Ef.alloc Try.zeroValue65 rfl ?_)
            intro b15
            refine JL.ef0 (Ef.stB Try.sizeOf65 (t0 rfl) (t1 rfl rfl) (by repeat (first | exact .here | apply Rep.there)) (by repeat (first | exact .own | exact .rd | apply Blk.there)) (by first | rfl | assumption | simp_all) (by first | rfl | assumption | simp_all) (by first | exact bv_one _ | exact cons_one rfl (bv_one _) | (simp [Value.oneCell']; done) | (simp [Value.oneCell', str]; done)) (by decide) ?_)
            refine JL.nil ?_
            refine At.next ?_
            refine J.draw [⟨false, 0, 0⟩, ⟨false, 0, 0⟩, ⟨false, 0, 0⟩, ⟨false, 0, 0⟩, ⟨false, 0, 0⟩, ⟨false, 0, 0⟩, ⟨false, 0, 0⟩, ⟨false, 0, 0⟩, ⟨false, 0, 0⟩, ⟨false, 0, 0⟩, ⟨false, 0, 0⟩, ⟨false, 0, 0⟩, ⟨false, 0, 0⟩, ⟨false, 0, 0⟩, ⟨false, 0, 0⟩, ⟨false, 0, 0⟩, ⟨false, 0, 0⟩, ⟨false, 0, 0⟩, ⟨true, 0, 0⟩] [18] mixed rfl ?_
            refine DRun.at [] [0, 1, 2, 3, 4, 5, 6, 7, 8, 9, 10, 11, 12, 13, 14, 15, 16, 17] rfl rfl ?_ ?_
            · exact .nil
            refine DNew.rd rfl ((by first | exact Rd.fld0 fld_51_0 (t10 rfl rfl) | exact Rd.fldz fld_51_0 (t10 rfl rfl))) ?_
            refine DNew.rd rfl (Rd.ldN Try.isAgg48 (t0 rfl) (by repeat (first | exact .own | exact .rd | apply Blk.there)) (by repeat (first | exact .zero | apply Nth.succ))) ?_
            refine DNew.rd rfl ((by first | exact Rd.fld0 fld_65_0 (t2 rfl rfl) | exact Rd.fldz fld_65_0 (t2 rfl rfl))) ?_
            refine DNew.rd rfl (Rd.ldN Try.isAgg3 (t0 rfl) (by repeat (first | exact .own | exact .rd | apply Blk.there)) (by repeat (first | exact .zero | apply Nth.succ))) ?_
            refine DNew.rd rfl ((by first | exact Rd.fld0 fld_65_1 (t4 rfl rfl) | exact Rd.fld fld_65_1 (t4 rfl rfl))) ?_
            refine DNew.rd rfl (Rd.ldN Try.isAgg9 (t0 rfl) (by repeat (first | exact .own | exact .rd | apply Blk.there)) (by repeat (first | exact .zero | apply Nth.succ))) ?_
            refine DNew.rd rfl (Rd.move (t12 rfl rfl)) ?_
            refine DNew.rd rfl (Rd.strTo Try.runUnderlying9 (t1 rfl rfl) (t0 rfl) (by first | (simp; done) | (simp; omega) | omega | (simp [*]; done)) (by first | (simp; done) | (simp; omega) | omega | (simp [*]; done))) ?_
            refine DNew.rd rfl ((by first | exact Rd.fld0 fld_51_0 (t18 rfl rfl) | exact Rd.fldz fld_51_0 (t18 rfl rfl))) ?_
            refine DNew.rd rfl (Rd.ldN Try.isAgg48 (t0 rfl) (by repeat (first | exact .own | exact .rd | apply Blk.there)) (by repeat (first | exact .zero | apply Nth.succ))) ?_
            refine DNew.rd rfl ((by first | exact Rd.fld0 fld_65_0 (t10 rfl rfl) | exact Rd.fldz fld_65_0 (t10 rfl rfl))) ?_
            refine DNew.rd rfl (Rd.ldN Try.isAgg3 (t0 rfl) (by repeat (first | exact .own | exact .rd | apply Blk.there)) (by repeat (first | exact .zero | apply Nth.succ))) ?_
            refine DNew.rd rfl (Rd.sIdx Try.runUnderlying48 Try.sizeOf9 (t2 rfl rfl) (t0 rfl) (SIn.row (by repeat (first | exact .here | apply Take.there))) (by simp) (by omega) (by omega)) ?_
            refine DNew.rd rfl (Rd.sLd Try.isAgg9 (t0 rfl) (SIn.row (by repeat (first | exact .here | apply Take.there))) (by rw [Int.toNat_natCast]; exact hdg) rfl) ?_
            refine DNew.rd rfl (Rd.move (t20 rfl rfl)) ?_
            refine DNew.rd rfl (Rd.strFrom Try.runUnderlying9 (t1 rfl rfl) (t0 rfl) (by first | (simp; done) | (simp; omega) | omega | (simp [*]; done)) (by first | (simp; done) | (simp; omega) | omega | (simp [*]; done))) ?_
            refine DNew.rd rfl (Rd.str_add (t8 rfl rfl) (t0 rfl) (by first | (simp; done) | (simp; omega) | omega | (simp [*]; done))) ?_
            refine DNew.rd rfl (Rd.sIdx Try.runUnderlying48 Try.sizeOf9 (t15 rfl rfl) (t13 rfl rfl) (SIn.row (by repeat (first | exact .here | apply Take.there))) (by simp) (by omega) (by omega)) ?_
            refine DNew.nil ?_
            refine DRun.ef0 rfl (Ef.sSt Try.sizeOf9 (t0 rfl) (t1 rfl rfl) rfl (by repeat (first | exact .here | apply Take.there)) (by rw [Int.toNat_natCast]; exact hdg) (by decide) rfl ?_)
            refine DRun.end [] [] rfl rfl ?_ ?_
            · exact .nil
            refine DNew.nil ?_
            refine At.blkN ?_
            refine At.next ?_
            refine J.live (K := [(6, _), (5, _), (4, _), (2, _), (1, _)]) ⟨(lk25 rfl), (lk26 rfl), (lk27 rfl), (lk28 rfl), (lk29 rfl), trivial⟩ ?_
            intro ρ16
            refine J.region ?_
            refine JL.rd (Rd.move (t0 rfl)) ?_
            refine JL.rd (Rd.add (t0 rfl) Ev.c (w64 (by omega) (by omega))) ?_
            refine JL.rd (Rd.assign (t0 rfl)) ?_
            refine JL.nil ?_
            have hK : ∀ K : Int, K = (fateN (cs.getD x 0) : Int) → (durs D.n (D.back cs x)).set (p.1 : Int).toNat ([str (D.back cs x p.1)].set 0 (str (p.2.take K.toNat ++ (D.back cs x p.1).drop K.toNat))) = durs D.n (D.back cs (x + 1)) := fun K e => by rw [e, Dk.back_succ hp]; exact durs_set hpl1
            rw [hK _ (by unfold fateN; split <;> (try split) <;> omega)]
            refine At.again (x + 1) ?_ ?_ ⟨lk0.trans (by first | with_reducible rfl | (congr 1; omega) | (simp; done) | (simp [*]; done)), trivial⟩ ⟨(lk4 rfl), (lk5 rfl), (lk6 rfl), (lk7 rfl), trivial⟩ (fun _ => Stars.sel (by repeat (first | exact Sel.nil | apply Sel.cons (by repeat (first | exact .here | apply Take.there)))))
            · omega
            · omega
        · intro hc9
          refine J.skip ?_
          refine At.next ?_
          refine J.seq ?_
          refine J.seq ?_
          refine J.region ?_
          refine JL.rd (Rd.move (t4 rfl rfl)) ?_
          refine JL.rd (Rd.rem (t0 rfl) Ev.c (by omega) (by omega)) ?_
          refine JL.rd (Rd.eql (t0 rfl) Ev.c) ?_
          refine JL.nil ?_
          refine At.next ?_
          refine J.condD (t0 rfl) ?_ ?_
          · intro hc17
            refine J.region ?_
            refine JL.rd (Rd.move (t7 rfl rfl)) ?_
            refine JL.rd (Rd.quo (t0 rfl) Ev.c (by omega) (by omega) (w64 (by omega) (by omega))) ?_
            refine JL.rd (Rd.rem (t0 rfl) Ev.c (by omega) (by omega)) ?_
            refine JL.rd (Rd.mul (t0 rfl) Ev.c (w64 (by omega) (by omega))) ?_
            refine JL.rd (Rd.assign (t0 rfl)) ?_
            refine JL.nil ?_
            refine At.next ?_
            refine J.seq ?_
            refine J.live (K := [(8, _), (6, _), (5, _), (4, _), (2, _), (1, _)]) ⟨lk0, (lk28 rfl), (lk29 rfl), (lk30 rfl), (lk31 rfl), (lk32 rfl), trivial⟩ ?_
            intro ρ18
            refine J.region ?_
            refine JL.rd ((by first | exact Rd.fld0 fld_51_1 (t4 rfl rfl) | exact Rd.fld fld_51_1 (t4 rfl rfl))) ?_
            refine JL.rd (Rd.ldN Try.isAgg49 (t0 rfl) (by repeat (first | exact .own | exact .rd | apply Blk.there)) (by repeat (first | exact .zero | apply Nth.succ))) ?_
            refine JL.rd (Rd.move (t3 rfl rfl)) ?_
            refine JL.rd (Rd.sIdx Try.runUnderlying49 Try.sizeOf65 (t1 rfl rfl) (t0 rfl) (SIn.rowR (by repeat (first | exact .here | apply Take.there))) (by simp) (by omega) (by omega)) ?_
            refine JL.rd (Rd.sLdA Try.isAgg65 Try.sizeOf65 (t0 rfl) (SIn.rowR (by repeat (first | exact .here | apply Take.there))) hx) ?_
            refine JL.ef (Ef.alloc Try.zeroValue65 rfl ?_)
            intro b19
            refine JL.ef0 (Ef.stB Try.sizeOf65 (t0 rfl) (t1 rfl rfl) (by repeat (first | exact .here | apply Rep.there)) (by repeat (first | exact .own | exact .rd | apply Blk.there)) (by first | rfl | assumption | simp_all) (by first | rfl | assumption | simp_all) (by first | exact bv_one _ | exact cons_one rfl (bv_one _) | (simp [Value.oneCell']; done) | (simp [Value.oneCell', str]; done)) (by decide) ?_)
            refine JL.nil ?_
            refine At.next ?_
            refine J.draw [⟨false, 0, 0⟩, ⟨false, 0, 0⟩, ⟨false, 0, 0⟩, ⟨false, 0, 0⟩, ⟨false, 0, 0⟩, ⟨false, 0, 0⟩, ⟨false, 0, 0⟩, ⟨false, 0, 0⟩, ⟨false, 0, 0⟩, ⟨false, 0, 0⟩, ⟨false, 0, 0⟩, ⟨false, 0, 0⟩, ⟨false, 0, 0⟩, ⟨false, 0, 0⟩, ⟨false, 0, 0⟩, ⟨false, 0, 0⟩, ⟨false, 0, 0⟩, ⟨false, 0, 0⟩, ⟨true, 0, 0⟩] [18] mixed rfl ?_
            refine DRun.at [] [0, 1, 2, 3, 4, 5, 6, 7, 8, 9, 10, 11, 12, 13, 14, 15, 16, 17] rfl rfl ?_ ?_
            · exact .nil
            refine DNew.rd rfl ((by first | exact Rd.fld0 fld_51_0 (t10 rfl rfl) | exact Rd.fldz fld_51_0 (t10 rfl rfl))) ?_
            refine DNew.rd rfl (Rd.ldN Try.isAgg48 (t0 rfl) (by repeat (first | exact .own | exact .rd | apply Blk.there)) (by repeat (first | exact .zero | apply Nth.succ))) ?_
            refine DNew.rd rfl ((by first | exact Rd.fld0 fld_65_0 (t2 rfl rfl) | exact Rd.fldz fld_65_0 (t2 rfl rfl))) ?_
            refine DNew.rd rfl (Rd.ldN Try.isAgg3 (t0 rfl) (by repeat (first | exact .own | exact .rd | apply Blk.there)) (by repeat (first | exact .zero | apply Nth.succ))) ?_
            refine DNew.rd rfl ((by first | exact Rd.fld0 fld_65_1 (t4 rfl rfl) | exact Rd.fld fld_65_1 (t4 rfl rfl))) ?_
            refine DNew.rd rfl (Rd.ldN Try.isAgg9 (t0 rfl) (by repeat (first | exact .own | exact .rd | apply Blk.there)) (by repeat (first | exact .zero | apply Nth.succ))) ?_
            refine DNew.rd rfl (Rd.move (t12 rfl rfl)) ?_
            refine DNew.rd rfl (Rd.strTo Try.runUnderlying9 (t1 rfl rfl) (t0 rfl) (by first | (simp; done) | (simp; omega) | omega | (simp [*]; done)) (by first | (simp; done) | (simp; omega) | omega | (simp [*]; done))) ?_
            refine DNew.rd rfl ((by first | exact Rd.fld0 fld_51_0 (t18 rfl rfl) | exact Rd.fldz fld_51_0 (t18 rfl rfl))) ?_
            refine DNew.rd rfl (Rd.ldN Try.isAgg48 (t0 rfl) (by repeat (first | exact .own | exact .rd | apply Blk.there)) (by repeat (first | exact .zero | apply Nth.succ))) ?_
            refine DNew.rd rfl ((by first | exact Rd.fld0 fld_65_0 (t10 rfl rfl) | exact Rd.fldz fld_65_0 (t10 rfl rfl))) ?_
            refine DNew.rd rfl (Rd.ldN Try.isAgg3 (t0 rfl) (by repeat (first | exact .own | exact .rd | apply Blk.there)) (by repeat (first | exact .zero | apply Nth.succ))) ?_
            refine DNew.rd rfl (Rd.sIdx Try.runUnderlying48 Try.sizeOf9 (t2 rfl rfl) (t0 rfl) (SIn.row (by repeat (first | exact .here | apply Take.there))) (by simp) (by omega) (by omega)) ?_
            refine DNew.rd rfl (Rd.sLd Try.isAgg9 (t0 rfl) (SIn.row (by repeat (first | exact .here | apply Take.there))) (by rw [Int.toNat_natCast]; exact hdg) rfl) ?_
            refine DNew.rd rfl (Rd.move (t20 rfl rfl)) ?_
            refine DNew.rd rfl (Rd.strFrom Try.runUnderlying9 (t1 rfl rfl) (t0 rfl) (by first | (simp; done) | (simp; omega) | omega | (simp [*]; done)) (by first | (simp; done) | (simp; omega) | omega | (simp [*]; done))) ?_
            refine DNew.rd rfl (Rd.str_add (t8 rfl rfl) (t0 rfl) (by first | (simp; done) | (simp; omega) | omega | (simp [*]; done))) ?_
            refine DNew.rd rfl (Rd.sIdx Try.runUnderlying48 Try.sizeOf9 (t15 rfl rfl) (t13 rfl rfl) (SIn.row (by repeat (first | exact .here | apply Take.there))) (by simp) (by omega) (by omega)) ?_
            refine DNew.nil ?_
            refine DRun.ef0 rfl (Ef.sSt Try.sizeOf9 (t0 rfl) (t1 rfl rfl) rfl (by repeat (first | exact .here | apply Take.there)) (by rw [Int.toNat_natCast]; exact hdg) (by decide) rfl ?_)
            refine DRun.end [] [] rfl rfl ?_ ?_
            · exact .nil
            refine DNew.nil ?_
            refine At.blkN ?_
            refine At.next ?_
            refine J.live (K := [(6, _), (5, _), (4, _), (2, _), (1, _)]) ⟨(lk25 rfl), (lk26 rfl), (lk27 rfl), (lk28 rfl), (lk29 rfl), trivial⟩ ?_
            intro ρ20
            refine J.region ?_
            refine JL.rd (Rd.move (t0 rfl)) ?_
            refine JL.rd (Rd.add (t0 rfl) Ev.c (w64 (by omega) (by omega))) ?_
            refine JL.rd (Rd.assign (t0 rfl)) ?_
            refine JL.nil ?_
            have hK : ∀ K : Int, K = (fateN (cs.getD x 0) : Int) → (durs D.n (D.back cs x)).set (p.1 : Int).toNat ([str (D.back cs x p.1)].set 0 (str (p.2.take K.toNat ++ (D.back cs x p.1).drop K.toNat))) = durs D.n (D.back cs (x + 1)) := fun K e => by rw [e, Dk.back_succ hp]; exact durs_set hpl1
            rw [hK _ (by unfold fateN; split <;> (try split) <;> omega)]
            refine At.again (x + 1) ?_ ?_ ⟨lk0.trans (by first | with_reducible rfl | (congr 1; omega) | (simp; done) | (simp [*]; done)), trivial⟩ ⟨(lk4 rfl), (lk5 rfl), (lk6 rfl), (lk7 rfl), trivial⟩ (fun _ => Stars.sel (by repeat (first | exact Sel.nil | apply Sel.cons (by repeat (first | exact .here | apply Take.there)))))
            · omega
            · omega
          · intro hc17
            refine J.skip ?_
            refine At.next ?_
            refine J.seq ?_
            refine J.region ?_
            refine JL.rd ((by first | exact Rd.fld0 fld_51_1 (t26 rfl rfl) | exact Rd.fld fld_51_1 (t26 rfl rfl))) ?_
            refine JL.rd (Rd.ldN Try.isAgg49 (t0 rfl) (by repeat (first | exact .own | exact .rd | apply Blk.there)) (by repeat (first | exact .zero | apply Nth.succ))) ?_
            refine JL.rd (Rd.move (t25 rfl rfl)) ?_
            refine JL.rd (Rd.sIdx Try.runUnderlying49 Try.sizeOf65 (t1 rfl rfl) (t0 rfl) (SIn.rowR (by repeat (first | exact .here | apply Take.there))) (by simp) (by omega) (by omega)) ?_
            refine JL.rd (Rd.sLdA Try.isAgg65 Try.sizeOf65 (t0 rfl) (SIn.rowR (by repeat (first | exact .here | apply Take.there))) hx) ?_
            refine JL.ef (Ef.alloc Try.zeroValue65 rfl ?_)
            intro b21
            refine JL.ef0 (Ef.stB Try.sizeOf65 (t0 rfl) (t1 rfl rfl) (by repeat (first | exact .here | apply Rep.there)) (by repeat (first | exact .own | exact .rd | apply Blk.there)) (by first | rfl | assumption | simp_all) (by first | rfl | assumption | simp_all) (by first | exact bv_one _ | exact cons_one rfl (bv_one _) | (simp [Value.oneCell']; done) | (simp [Value.oneCell', str]; done)) (by decide) ?_)
            refine JL.nil ?_
            refine At.next ?_
            refine J.live (K := [(9, _), (8, _), (6, _), (5, _), (4, _), (2, _), (1, _)]) ⟨lk0, (lk12 rfl), (lk29 rfl), (lk30 rfl), (lk31 rfl), (lk32 rfl), (lk33 rfl), trivial⟩ ?_
            intro ρ22
            refine J.draw [⟨false, 0, 0⟩, ⟨false, 0, 0⟩, ⟨false, 0, 0⟩, ⟨false, 0, 0⟩, ⟨false, 0, 0⟩, ⟨false, 0, 0⟩, ⟨false, 0, 0⟩, ⟨false, 0, 0⟩, ⟨false, 0, 0⟩, ⟨false, 0, 0⟩, ⟨false, 0, 0⟩, ⟨false, 0, 0⟩, ⟨false, 0, 0⟩, ⟨false, 0, 0⟩, ⟨false, 0, 0⟩, ⟨false, 0, 0⟩, ⟨false, 0, 0⟩, ⟨false, 0, 0⟩, ⟨true, 0, 0⟩] [18] mixed rfl ?_
            refine DRun.at [] [0, 1, 2, 3, 4, 5, 6, 7, 8, 9, 10, 11, 12, 13, 14, 15, 16, 17] rfl rfl ?_ ?_
            · exact .nil
            refine DNew.rd rfl ((by first | exact Rd.fld0 fld_51_0 (t5 rfl rfl) | exact Rd.fldz fld_51_0 (t5 rfl rfl))) ?_
            refine DNew.rd rfl (Rd.ldN Try.isAgg48 (t0 rfl) (by repeat (first | exact .own | exact .rd | apply Blk.there)) (by repeat (first | exact .zero | apply Nth.succ))) ?_
            refine DNew.rd rfl ((by first | exact Rd.fld0 fld_65_0 (t2 rfl rfl) | exact Rd.fldz fld_65_0 (t2 rfl rfl))) ?_
            refine DNew.rd rfl (Rd.ldN Try.isAgg3 (t0 rfl) (by repeat (first | exact .own | exact .rd | apply Blk.there)) (by repeat (first | exact .zero | apply Nth.succ))) ?_
            refine DNew.rd rfl ((by first | exact Rd.fld0 fld_65_1 (t4 rfl rfl) | exact Rd.fld fld_65_1 (t4 rfl rfl))) ?_
            refine DNew.rd rfl (Rd.ldN Try.isAgg9 (t0 rfl) (by repeat (first | exact .own | exact .rd | apply Blk.there)) (by repeat (first | exact .zero | apply Nth.succ))) ?_
            refine DNew.rd rfl (Rd.move (t7 rfl rfl)) ?_
            refine DNew.rd rfl (Rd.strTo Try.runUnderlying9 (t1 rfl rfl) (t0 rfl) (by first | (simp; done) | (simp; omega) | omega | (simp [*]; done)) (by first | (simp; done) | (simp; omega) | omega | (simp [*]; done))) ?_
            refine DNew.rd rfl ((by first | exact Rd.fld0 fld_51_0 (t13 rfl rfl) | exact Rd.fldz fld_51_0 (t13 rfl rfl))) ?_
            refine DNew.rd rfl (Rd.ldN Try.isAgg48 (t0 rfl) (by repeat (first | exact .own | exact .rd | apply Blk.there)) (by repeat (first | exact .zero | apply Nth.succ))) ?_
            refine DNew.rd rfl ((by first | exact Rd.fld0 fld_65_0 (t10 rfl rfl) | exact Rd.fldz fld_65_0 (t10 rfl rfl))) ?_
            refine DNew.rd rfl (Rd.ldN Try.isAgg3 (t0 rfl) (by repeat (first | exact .own | exact .rd | apply Blk.there)) (by repeat (first | exact .zero | apply Nth.succ))) ?_
            refine DNew.rd rfl (Rd.sIdx Try.runUnderlying48 Try.sizeOf9 (t2 rfl rfl) (t0 rfl) (SIn.row (by repeat (first | exact .here | apply Take.there))) (by simp) (by omega) (by omega)) ?_
            refine DNew.rd rfl (Rd.sLd Try.isAgg9 (t0 rfl) (SIn.row (by repeat (first | exact .here | apply Take.there))) (by rw [Int.toNat_natCast]; exact hdg) rfl) ?_
            refine DNew.rd rfl (Rd.move (t15 rfl rfl)) ?_
            refine DNew.rd rfl (Rd.strFrom Try.runUnderlying9 (t1 rfl rfl) (t0 rfl) (by first | (simp; done) | (simp; omega) | omega | (simp [*]; done)) (by first | (simp; done) | (simp; omega) | omega | (simp [*]; done))) ?_
            refine DNew.rd rfl (Rd.str_add (t8 rfl rfl) (t0 rfl) (by first | (simp; done) | (simp; omega) | omega | (simp [*]; done))) ?_
            refine DNew.rd rfl (Rd.sIdx Try.runUnderlying48 Try.sizeOf9 (t15 rfl rfl) (t13 rfl rfl) (SIn.row (by repeat (first | exact .here | apply Take.there))) (by simp) (by omega) (by omega)) ?_
            refine DNew.nil ?_
            refine DRun.ef0 rfl (Ef.sSt Try.sizeOf9 (t0 rfl) (t1 rfl rfl) rfl (by repeat (first | exact .here | apply Take.there)) (by rw [Int.toNat_natCast]; exact hdg) (by decide) rfl ?_)
            refine DRun.end [] [] rfl rfl ?_ ?_
            · exact .nil
            refine DNew.nil ?_
            refine At.blkN ?_
            refine At.next ?_
            refine J.region ?_
            refine JL.rd (Rd.move (t20 rfl rfl)) ?_
            refine JL.rd (Rd.add (t0 rfl) Ev.c (w64 (by omega) (by omega))) ?_
            refine JL.rd (Rd.assign (t0 rfl)) ?_
            refine JL.nil ?_
            have hK : ∀ K : Int, K = (fateN (cs.getD x 0) : Int) → (durs D.n (D.back cs x)).set (p.1 : Int).toNat ([str (D.back cs x p.1)].set 0 (str (p.2.take K.toNat ++ (D.back cs x p.1).drop K.toNat))) = durs D.n (D.back cs (x + 1)) := fun K e => by rw [e, Dk.back_succ hp]; exact durs_set hpl1
            rw [hK _ (by unfold fateN; split <;> (try split) <;> omega)]
            refine At.again (x + 1) ?_ ?_ ⟨lk0.trans (by first | with_reducible rfl | (congr 1; omega) | (simp; done) | (simp [*]; done)), trivial⟩ ⟨(lk24 rfl), (lk25 rfl), (lk26 rfl), (lk27 rfl), trivial⟩ (fun _ => Stars.sel (by repeat (first | exact Sel.nil | apply Sel.cons (by repeat (first | exact .here | apply Take.there)))))
            · omega
            · omega
      · intro hc8
        have hcz : (cs.getD x 0).toNat = 0 := by simp [List.getElem?_eq_none (show cs.length ≤ x by omega)]
        refine J.skip ?_
        refine At.next ?_
        refine J.seq ?_
        refine J.region ?_
        refine JL.rd (Rd.assign Ev.c) ?_
        refine JL.nil ?_
        refine At.next ?_
        refine J.seq ?_
        refine J.seq ?_
        refine J.region ?_
        refine JL.rd (Rd.move (t5 rfl rfl)) ?_
        refine JL.rd (Rd.rem (t0 rfl) Ev.c (by omega) (by omega)) ?_
        refine JL.rd (Rd.eql (t0 rfl) Ev.c) ?_
        refine JL.nil ?_
        refine At.next ?_
        refine J.condD (t0 rfl) ?_ ?_
        · intro hc23
          refine J.region ?_
          refine JL.rd (Rd.assign Ev.c) ?_
          refine JL.nil ?_
          refine At.next ?_
          refine J.seq ?_
          refine J.seq ?_
          refine J.region ?_
          refine JL.rd (Rd.move (t9 rfl rfl)) ?_
          refine JL.rd (Rd.rem (t0 rfl) Ev.c (by omega) (by omega)) ?_
          refine JL.rd (Rd.eql (t0 rfl) Ev.c) ?_
          refine JL.nil ?_
          refine At.next ?_
          refine J.condD (t0 rfl) ?_ ?_
          · intro hc24
            refine J.region ?_
            refine JL.rd (Rd.move (t12 rfl rfl)) ?_
            refine JL.rd (Rd.quo (t0 rfl) Ev.c (by omega) (by omega) (w64 (by omega) (by omega))) ?_
            refine JL.rd (Rd.rem (t0 rfl) Ev.c (by omega) (by omega)) ?_
            refine JL.rd (Rd.mul (t0 rfl) Ev.c (w64 (by omega) (by omega))) ?_
            refine JL.rd (Rd.assign (t0 rfl)) ?_
            refine JL.nil ?_
            refine At.next ?_
            refine J.seq ?_
            refine J.region ?_
            refine JL.rd ((by first | exact Rd.fld0 fld_51_1 (t26 rfl rfl) | exact Rd.fld fld_51_1 (t26 rfl rfl))) ?_
            refine JL.rd (Rd.ldN Try.isAgg49 (t0 rfl) (by repeat (first | exact .own | exact .rd | apply Blk.there)) (by repeat (first | exact .zero | apply Nth.succ))) ?_
            refine JL.rd (Rd.move (t25 rfl rfl)) ?_
            refine JL.rd (Rd.sIdx Try.runUnderlying49 Try.sizeOf65 (t1 rfl rfl) (t0 rfl) (SIn.rowR (by repeat (first | exact .here | apply Take.there))) (by simp) (by omega) (by omega)) ?_
            refine JL.rd (Rd.sLdA Try.isAgg65 Try.sizeOf65 (t0 rfl) (SIn.rowR (by repeat (first | exact .here | apply Take.there))) hx) ?_
            refine JL.ef (Ef.alloc Try.zeroValue65 rfl ?_)
            intro b25
            refine JL.ef0 (Ef.stB Try.sizeOf65 (t0 rfl) (t1 rfl rfl) (by repeat (first | exact .here | apply Rep.there)) (by repeat (first | exact .own | exact .rd | apply Blk.there)) (by first | rfl | assumption | simp_all) (by first | rfl | assumption | simp_all) (by first | exact bv_one _ | exact cons_one rfl (bv_one _) | (simp [Value.oneCell']; done) | (simp [Value.oneCell', str]; done)) (by decide) ?_)
            refine JL.nil ?_
            refine At.next ?_
            refine J.live (K := [(9, _), (8, _), (6, _), (5, _), (4, _), (2, _), (1, _)]) ⟨lk0, (lk6 rfl), (lk29 rfl), (lk30 rfl), (lk31 rfl), (lk32 rfl), (lk33 rfl), trivial⟩ ?_
            intro ρ26
            refine J.draw [⟨false, 0, 0⟩, ⟨false, 0, 0⟩, ⟨false, 0, 0⟩, ⟨false, 0, 0⟩, ⟨false, 0, 0⟩, ⟨false, 0, 0⟩, ⟨false, 0, 0⟩, ⟨false, 0, 0⟩, ⟨false, 0, 0⟩, ⟨false, 0, 0⟩, ⟨false, 0, 0⟩, ⟨false, 0, 0⟩, ⟨false, 0, 0⟩, ⟨false, 0, 0⟩, ⟨false, 0, 0⟩, ⟨false, 0, 0⟩, ⟨false, 0, 0⟩, ⟨false, 0, 0⟩, ⟨true, 0, 0⟩] [18] mixed rfl ?_
            refine DRun.at [] [0, 1, 2, 3, 4, 5, 6, 7, 8, 9, 10, 11, 12, 13, 14, 15, 16, 17] rfl rfl ?_ ?_
            · exact .nil
            refine DNew.rd rfl ((by first | exact Rd.fld0 fld_51_0 (t5 rfl rfl) | exact Rd.fldz fld_51_0 (t5 rfl rfl))) ?_
            refine DNew.rd rfl (Rd.ldN Try.isAgg48 (t0 rfl) (by repeat (first | exact .own | exact .rd | apply Blk.there)) (by repeat (first | exact .zero | apply Nth.succ))) ?_
            refine DNew.rd rfl ((by first | exact Rd.fld0 fld_65_0 (t2 rfl rfl) | exact Rd.fldz fld_65_0 (t2 rfl rfl))) ?_
            refine DNew.rd rfl (Rd.ldN Try.isAgg3 (t0 rfl) (by repeat (first | exact .own | exact .rd | apply Blk.there)) (by repeat (first | exact .zero | apply Nth.succ))) ?_
            refine DNew.rd rfl ((by first | exact Rd.fld0 fld_65_1 (t4 rfl rfl) | exact Rd.fld fld_65_1 (t4 rfl rfl))) ?_
            refine DNew.rd rfl (Rd.ldN Try.isAgg9 (t0 rfl) (by repeat (first | exact .own | exact .rd | apply Blk.there)) (by repeat (first | exact .zero | apply Nth.succ))) ?_
            refine DNew.rd rfl (Rd.move (t7 rfl rfl)) ?_
            refine DNew.rd rfl (Rd.strTo Try.runUnderlying9 (t1 rfl rfl) (t0 rfl) (by first | (simp; done) | (simp; omega) | omega | (simp [*]; done)) (by first | (simp; done) | (simp; omega) | omega | (simp [*]; done))) ?_
            refine DNew.rd rfl ((by first | exact Rd.fld0 fld_51_0 (t13 rfl rfl) | exact Rd.fldz fld_51_0 (t13 rfl rfl))) ?_
            refine DNew.rd rfl (Rd.ldN Try.isAgg48 (t0 rfl) (by repeat (first | exact .own | exact .rd | apply Blk.there)) (by repeat (first | exact .zero | apply Nth.succ))) ?_
            refine DNew.rd rfl ((by first | exact Rd.fld0 fld_65_0 (t10 rfl rfl) | exact Rd.fldz fld_65_0 (t10 rfl rfl))) ?_
            refine DNew.rd rfl (Rd.ldN Try.isAgg3 (t0 rfl) (by repeat (first | exact .own | exact .rd | apply Blk.there)) (by repeat (first | exact .zero | apply Nth.succ))) ?_
            refine DNew.rd rfl (Rd.sIdx Try.runUnderlying48 Try.sizeOf9 (t2 rfl rfl) (t0 rfl) (SIn.row (by repeat (first | exact .here | apply Take.there))) (by simp) (by omega) (by omega)) ?_
            refine DNew.rd rfl (Rd.sLd Try.isAgg9 (t0 rfl) (SIn.row (by repeat (first | exact .here | apply Take.there))) (by rw [Int.toNat_natCast]; exact hdg) rfl) ?_
            refine DNew.rd rfl (Rd.move (t15 rfl rfl)) ?_
            refine DNew.rd rfl (Rd.strFrom Try.runUnderlying9 (t1 rfl rfl) (t0 rfl) (by first | (simp; done) | (simp; omega) | omega | (simp [*]; done)) (by first | (simp; done) | (simp; omega) | omega | (simp [*]; done))) ?_
            refine DNew.rd rfl (Rd.str_add (t8 rfl rfl) (t0 rfl) (by first | (simp; done) | (simp; omega) | omega | (simp [*]; done))) ?_
            refine DNew.rd rfl (Rd.sIdx Try.runUnderlying48 Try.sizeOf9 (t15 rfl rfl) (t13 rfl rfl) (SIn.row (by repeat (first | exact .here | apply Take.there))) (by simp) (by omega) (by omega)) ?_
            refine DNew.nil ?_
            refine DRun.ef0 rfl (Ef.sSt Try.sizeOf9 (t0 rfl) (t1 rfl rfl) rfl (by repeat (first | exact .here | apply Take.there)) (by rw [Int.toNat_natCast]; exact hdg) (by decide) rfl ?_)
            refine DRun.end [] [] rfl rfl ?_ ?_
            · exact .nil
            refine DNew.nil ?_
            refine At.blkN ?_
            refine At.next ?_
            refine J.region ?_
            refine JL.rd (Rd.move (t20 rfl rfl)) ?_
            refine JL.rd (Rd.add (t0 rfl) Ev.c (w64 (by omega) (by omega))) ?_
            refine JL.rd (Rd.assign (t0 rfl)) ?_
            refine JL.nil ?_
            have hK : ∀ K : Int, K = (fateN (cs.getD x 0) : Int) → (durs D.n (D.back cs x)).set (p.1 : Int).toNat ([str (D.back cs x p.1)].set 0 (str (p.2.take K.toNat ++ (D.back cs x p.1).drop K.toNat))) = durs D.n (D.back cs (x + 1)) := fun K e => by rw [e, Dk.back_succ hp]; exact durs_set hpl1
            rw [hK _ (by unfold fateN; split <;> (try split) <;> omega)]
            refine At.again (x + 1) ?_ ?_ ⟨lk0.trans (by first | with_reducible rfl | (congr 1; omega) | (simp; done) | (simp [*]; done)), trivial⟩ ⟨(lk24 rfl), (lk25 rfl), (lk26 rfl), (lk27 rfl), trivial⟩ (fun _ => Stars.sel (by repeat (first | exact Sel.nil | apply Sel.cons (by repeat (first | exact .here | apply Take.there)))))
            · omega
            · omega
          · intro hc24
            refine J.skip ?_
            refine At.next ?_
            refine J.seq ?_
            refine J.region ?_
            refine JL.rd ((by first | exact Rd.fld0 fld_51_1 (t21 rfl rfl) | exact Rd.fld fld_51_1 (t21 rfl rfl))) ?_
            refine JL.rd (Rd.ldN Try.isAgg49 (t0 rfl) (by repeat (first | exact .own | exact .rd | apply Blk.there)) (by repeat (first | exact .zero | apply Nth.succ))) ?_
            refine JL.rd (Rd.move (t20 rfl rfl)) ?_
            refine JL.rd (Rd.sIdx Try.runUnderlying49 Try.sizeOf65 (t1 rfl rfl) (t0 rfl) (SIn.rowR (by repeat (first | exact .here | apply Take.there))) (by simp) (by omega) (by omega)) ?_
            refine JL.rd (Rd.sLdA Try.isAgg65 Try.sizeOf65 (t0 rfl) (SIn.rowR (by repeat (first | exact .here | apply Take.there))) hx) ?_
            refine JL.ef (Ef.alloc Try.zeroValue65 rfl ?_)
            intro b27
            refine JL.ef0 (Ef.stB Try.sizeOf65 (t0 rfl) (t1 rfl rfl) (by repeat (first | exact .here | apply Rep.there)) (by repeat (first | exact .own | exact .rd | apply Blk.there)) (by first | rfl | assumption | simp_all) (by first | rfl | assumption | simp_all) (by first | exact bv_one _ | exact cons_one rfl (bv_one _) | (simp [Value.oneCell']; done) | (simp [Value.oneCell', str]; done)) (by decide) ?_)
            refine JL.nil ?_
            refine At.next ?_
            refine J.live (K := [(9, _), (8, _), (6, _), (5, _), (4, _), (2, _), (1, _)]) ⟨lk0, (lk9 rfl), (lk24 rfl), (lk25 rfl), (lk26 rfl), (lk27 rfl), (lk28 rfl), trivial⟩ ?_
            intro ρ28
            refine J.draw [⟨false, 0, 0⟩, ⟨false, 0, 0⟩, ⟨false, 0, 0⟩, ⟨false, 0, 0⟩, ⟨false, 0, 0⟩, ⟨false, 0, 0⟩, ⟨false, 0, 0⟩, ⟨false, 0, 0⟩, ⟨false, 0, 0⟩, ⟨false, 0, 0⟩, ⟨false, 0, 0⟩, ⟨false, 0, 0⟩, ⟨false, 0, 0⟩, ⟨false, 0, 0⟩, ⟨false, 0, 0⟩, ⟨false, 0, 0⟩, ⟨false, 0, 0⟩, ⟨false, 0, 0⟩, ⟨true, 0, 0⟩] [18] mixed rfl ?_
            refine DRun.at [] [0, 1, 2, 3, 4, 5, 6, 7, 8, 9, 10, 11, 12, 13, 14, 15, 16, 17] rfl rfl ?_ ?_
            · exact .nil
            refine DNew.rd rfl ((by first | exact Rd.fld0 fld_51_0 (t5 rfl rfl) | exact Rd.fldz fld_51_0 (t5 rfl rfl))) ?_
            refine DNew.rd rfl (Rd.ldN Try.isAgg48 (t0 rfl) (by repeat (first | exact .own | exact .rd | apply Blk.there)) (by repeat (first | exact .zero | apply Nth.succ))) ?_
            refine DNew.rd rfl ((by first | exact Rd.fld0 fld_65_0 (t2 rfl rfl) | exact Rd.fldz fld_65_0 (t2 rfl rfl))) ?_
            refine DNew.rd rfl (Rd.ldN Try.isAgg3 (t0 rfl) (by repeat (first | exact .own | exact .rd | apply Blk.there)) (by repeat (first | exact .zero | apply Nth.succ))) ?_
            refine DNew.rd rfl ((by first | exact Rd.fld0 fld_65_1 (t4 rfl rfl) | exact Rd.fld fld_65_1 (t4 rfl rfl))) ?_
            refine DNew.rd rfl (Rd.ldN Try.isAgg9 (t0 rfl) (by repeat (first | exact .own | exact .rd | apply Blk.there)) (by repeat (first | exact .zero | apply Nth.succ))) ?_
            refine DNew.rd rfl (Rd.move (t7 rfl rfl)) ?_
            refine DNew.rd rfl (Rd.strTo Try.runUnderlying9 (t1 rfl rfl) (t0 rfl) (by first | (simp; done) | (simp; omega) | omega | (simp [*]; done)) (by first | (simp; done) | (simp; omega) | omega | (simp [*]; done))) ?_
            refine DNew.rd rfl ((by first | exact Rd.fld0 fld_51_0 (t13 rfl rfl) | exact Rd.fldz fld_51_0 (t13 rfl rfl))) ?_
            refine DNew.rd rfl (Rd.ldN Try.isAgg48 (t0 rfl) (by repeat (first | exact .own | exact .rd | apply Blk.there)) (by repeat (first | exact .zero | apply Nth.succ))) ?_
            refine DNew.rd rfl ((by first | exact Rd.fld0 fld_65_0 (t10 rfl rfl) | exact Rd.fldz fld_65_0 (t10 rfl rfl))) ?_
            refine DNew.rd rfl (Rd.ldN Try.isAgg3 (t0 rfl) (by repeat (first | exact .own | exact .rd | apply Blk.there)) (by repeat (first | exact .zero | apply Nth.succ))) ?_
            refine DNew.rd rfl (Rd.sIdx Try.runUnderlying48 Try.sizeOf9 (t2 rfl rfl) (t0 rfl) (SIn.row (by repeat (first | exact .here | apply Take.there))) (by simp) (by omega) (by omega)) ?_
            refine DNew.rd rfl (Rd.sLd Try.isAgg9 (t0 rfl) (SIn.row (by repeat (first | exact .here | apply Take.there))) (by rw [Int.toNat_natCast]; exact hdg) rfl) ?_
            refine DNew.rd rfl (Rd.move (t15 rfl rfl)) ?_
            refine DNew.rd rfl (Rd.strFrom Try.runUnderlying9 (t1 rfl rfl) (t0 rfl) (by first | (simp; done) | (simp; omega) | omega | (simp [*]; done)) (by first | (simp; done) | (simp; omega) | omega | (simp [*]; done))) ?_
            refine DNew.rd rfl (Rd.str_add (t8 rfl rfl) (t0 rfl) (by first | (simp; done) | (simp; omega) | omega | (simp [*]; done))) ?_
            refine DNew.rd rfl (Rd.sIdx Try.runUnderlying48 Try.sizeOf9 (t15 rfl rfl) (t13 rfl rfl) (SIn.row (by repeat (first | exact .here | apply Take.there))) (by simp) (by omega) (by omega)) ?_
            refine DNew.nil ?_
            refine DRun.ef0 rfl (Ef.sSt Try.sizeOf9 (t0 rfl) (t1 rfl rfl) rfl (by repeat (first | exact .here | apply Take.there)) (by rw [Int.toNat_natCast]; exact hdg) (by decide) rfl ?_)
            refine DRun.end [] [] rfl rfl ?_ ?_
            · exact .nil
            refine DNew.nil ?_
            refine At.blkN ?_
            refine At.next ?_
            refine J.region ?_
            refine JL.rd (Rd.move (t20 rfl rfl)) ?_
            refine JL.rd (Rd.add (t0 rfl) Ev.c (w64 (by omega) (by omega))) ?_
            refine JL.rd (Rd.assign (t0 rfl)) ?_
            refine JL.nil ?_
            have hK : ∀ K : Int, K = (fateN (cs.getD x 0) : Int) → (durs D.n (D.back cs x)).set (p.1 : Int).toNat ([str (D.back cs x p.1)].set 0 (str (p.2.take K.toNat ++ (D.back cs x p.1).drop K.toNat))) = durs D.n (D.back cs (x + 1)) := fun K e => by rw [e, Dk.back_succ hp]; exact durs_set hpl1
            rw [hK _ (by unfold fateN; split <;> (try split) <;> omega)]
            refine At.again (x + 1) ?_ ?_ ⟨lk0.trans (by first | with_reducible rfl | (congr 1; omega) | (simp; done) | (simp [*]; done)), trivial⟩ ⟨(lk24 rfl), (lk25 rfl), (lk26 rfl), (lk27 rfl), trivial⟩ (fun _ => Stars.sel (by repeat (first | exact Sel.nil | apply Sel.cons (by repeat (first | exact .here | apply Take.there)))))
            · omega
            · omega
        · intro hc23
          refine J.skip ?_
          refine At.next ?_
          refine J.seq ?_
          refine J.seq ?_
          refine J.region ?_
          refine JL.rd (Rd.move (t8 rfl rfl)) ?_
          refine JL.rd (Rd.rem (t0 rfl) Ev.c (by omega) (by omega)) ?_
          refine JL.rd (Rd.eql (t0 rfl) Ev.c) ?_
          refine JL.nil ?_
          refine At.next ?_
          refine J.condD (t0 rfl) ?_ ?_
          · intro hc29
            refine J.region ?_
            refine JL.rd (Rd.move (t11 rfl rfl)) ?_
            refine JL.rd (Rd.quo (t0 rfl) Ev.c (by omega) (by omega) (w64 (by omega) (by omega))) ?_
            refine JL.rd (Rd.rem (t0 rfl) Ev.c (by omega) (by omega)) ?_
            refine JL.rd (Rd.mul (t0 rfl) Ev.c (w64 (by omega) (by omega))) ?_
            refine JL.rd (Rd.assign (t0 rfl)) ?_
            refine JL.nil ?_
            refine At.next ?_
            refine J.seq ?_
            refine J.region ?_
            refine JL.rd ((by first | exact Rd.fld0 fld_51_1 (t25 rfl rfl) | exact Rd.fld fld_51_1 (t25 rfl rfl))) ?_
            refine JL.rd (Rd.ldN Try.isAgg49 (t0 rfl) (by repeat (first | exact .own | exact .rd | apply Blk.there)) (by repeat (first | exact .zero | apply Nth.succ))) ?_
            refine JL.rd (Rd.move (t24 rfl rfl)) ?_
            refine JL.rd (Rd.sIdx Try.runUnderlying49 Try.sizeOf65 (t1 rfl rfl) (t0 rfl) (SIn.rowR (by repeat (first | exact .here | apply Take.there))) (by simp) (by omega) (by omega)) ?_
            refine JL.rd (Rd.sLdA Try.isAgg65 Try.sizeOf65 (t0 rfl) (SIn.rowR (by repeat (first | exact .here | apply Take.there))) hx) ?_
            refine JL.ef (Ef.alloc Try.zeroValue65 rfl ?_)
            intro b30
            refine JL.ef0 (Ef.stB Try.sizeOf65 (t0 rfl) (t1 rfl rfl) (by repeat (first | exact .here | apply Rep.there)) (by repeat (first | exact .own | exact .rd | apply Blk.there)) (by first | rfl | assumption | simp_all) (by first | rfl | assumption | simp_all) (by first | exact bv_one _ | exact cons_one rfl (bv_one _) | (simp [Value.oneCell']; done) | (simp [Value.oneCell', str]; done)) (by decide) ?_)
            refine JL.nil ?_
            refine At.next ?_
            refine J.live (K := [(9, _), (8, _), (6, _), (5, _), (4, _), (2, _), (1, _)]) ⟨lk0, (lk6 rfl), (lk28 rfl), (lk29 rfl), (lk30 rfl), (lk31 rfl), (lk32 rfl), trivial⟩ ?_
            intro ρ31
            refine J.draw [⟨false, 0, 0⟩, ⟨false, 0, 0⟩, ⟨false, 0, 0⟩, ⟨false, 0, 0⟩, ⟨false, 0, 0⟩, ⟨false, 0, 0⟩, ⟨false, 0, 0⟩, ⟨false, 0, 0⟩, ⟨false, 0, 0⟩, ⟨false, 0, 0⟩, ⟨false, 0, 0⟩, ⟨false, 0, 0⟩, ⟨false, 0, 0⟩, ⟨false, 0, 0⟩, ⟨false, 0, 0⟩, ⟨false, 0, 0⟩, ⟨false, 0, 0⟩, ⟨false, 0, 0⟩, ⟨true, 0, 0⟩] [18] mixed rfl ?_
            refine DRun.at [] [0, 1, 2, 3, 4, 5, 6, 7, 8, 9, 10, 11, 12, 13, 14, 15, 16, 17] rfl rfl ?_ ?_
            · exact .nil
            refine DNew.rd rfl ((by first | exact Rd.fld0 fld_51_0 (t5 rfl rfl) | exact Rd.fldz fld_51_0 (t5 rfl rfl))) ?_
            refine DNew.rd rfl (Rd.ldN Try.isAgg48 (t0 rfl) (by repeat (first | exact .own | exact .rd | apply Blk.there)) (by repeat (first | exact .zero | apply Nth.succ))) ?_
            refine DNew.rd rfl ((by first | exact Rd.fld0 fld_65_0 (t2 rfl rfl) | exact Rd.fldz fld_65_0 (t2 rfl rfl))) ?_
            refine DNew.rd rfl (Rd.ldN Try.isAgg3 (t0 rfl) (by repeat (first | exact .own | exact .rd | apply Blk.there)) (by repeat (first | exact .zero | apply Nth.succ))) ?_
            refine DNew.rd rfl ((by first | exact Rd.fld0 fld_65_1 (t4 rfl rfl) | exact Rd.fld fld_65_1 (t4 rfl rfl))) ?_
            refine DNew.rd rfl (Rd.ldN Try.isAgg9 (t0 rfl) (by repeat (first | exact .own | exact .rd | apply Blk.there)) (by repeat (first | exact .zero | apply Nth.succ))) ?_
            refine DNew.rd rfl (Rd.move (t7 rfl rfl)) ?_
            refine DNew.rd rfl (Rd.strTo Try.runUnderlying9 (t1 rfl rfl) (t0 rfl) (by first | (simp; done) | (simp; omega) | omega | (simp [*]; done)) (by first | (simp; done) | (simp; omega) | omega | (simp [*]; done))) ?_
            refine DNew.rd rfl ((by first | exact Rd.fld0 fld_51_0 (t13 rfl rfl) | exact Rd.fldz fld_51_0 (t13 rfl rfl))) ?_
            refine DNew.rd rfl (Rd.ldN Try.isAgg48 (t0 rfl) (by repeat (first | exact .own | exact .rd | apply Blk.there)) (by repeat (first | exact .zero | apply Nth.succ))) ?_
            refine DNew.rd rfl ((by first | exact Rd.fld0 fld_65_0 (t10 rfl rfl) | exact Rd.fldz fld_65_0 (t10 rfl rfl))) ?_
            refine DNew.rd rfl (Rd.ldN Try.isAgg3 (t0 rfl) (by repeat (first | exact .own | exact .rd | apply Blk.there)) (by repeat (first | exact .zero | apply Nth.succ))) ?_
            refine DNew.rd rfl (Rd.sIdx Try.runUnderlying48 Try.sizeOf9 (t2 rfl rfl) (t0 rfl) (SIn.row (by repeat (first | exact .here | apply Take.there))) (by simp) (by omega) (by omega)) ?_
            refine DNew.rd rfl (Rd.sLd Try.isAgg9 (t0 rfl) (SIn.row (by repeat (first | exact .here | apply Take.there))) (by rw [Int.toNat_natCast]; exact hdg) rfl) ?_
            refine DNew.rd rfl (Rd.move (t15 rfl rfl)) ?_
            refine DNew.rd rfl (Rd.strFrom Try.runUnderlying9 (t1 rfl rfl) (t0 rfl) (by first | (simp; done) | (simp; omega) | omega | (simp [*]; done)) (by first | (simp; done) | (simp; omega) | omega | (simp [*]; done))) ?_
            refine DNew.rd rfl (Rd.str_add (t8 rfl rfl) (t0 rfl) (by first | (simp; done) | (simp; omega) | omega | (simp [*]; done))) ?_
            refine DNew.rd rfl (Rd.sIdx Try.runUnderlying48 Try.sizeOf9 (t15 rfl rfl) (t13 rfl rfl) (SIn.row (by repeat (first | exact .here | apply Take.there))) (by simp) (by omega) (by omega)) ?_
            refine DNew.nil ?_
            refine DRun.ef0 rfl (Ef.sSt Try.sizeOf9 (t0 rfl) (t1 rfl rfl) rfl (by repeat (first | exact .here | apply Take.there)) (by rw [Int.toNat_natCast]; exact hdg) (by decide) rfl ?_)
            refine DRun.end [] [] rfl rfl ?_ ?_
            · exact .nil
            refine DNew.nil ?_
            refine At.blkN ?_
            refine At.next ?_
            refine J.region ?_
            refine JL.rd (Rd.move (t20 rfl rfl)) ?_
            refine JL.rd (Rd.add (t0 rfl) Ev.c (w64 (by omega) (by omega))) ?_
            refine JL.rd (Rd.assign (t0 rfl)) ?_
            refine JL.nil ?_
            have hK : ∀ K : Int, K = (fateN (cs.getD x 0) : Int) → (durs D.n (D.back cs x)).set (p.1 : Int).toNat ([str (D.back cs x p.1)].set 0 (str (p.2.take K.toNat ++ (D.back cs x p.1).drop K.toNat))) = durs D.n (D.back cs (x + 1)) := fun K e => by rw [e, Dk.back_succ hp]; exact durs_set hpl1
            rw [hK _ (by unfold fateN; split <;> (try split) <;> omega)]
            refine At.again (x + 1) ?_ ?_ ⟨lk0.trans (by first | with_reducible rfl | (congr 1; omega) | (simp; done) | (simp [*]; done)), trivial⟩ ⟨(lk24 rfl), (lk25 rfl), (lk26 rfl), (lk27 rfl), trivial⟩ (fun _ => Stars.sel (by repeat (first | exact Sel.nil | apply Sel.cons (by repeat (first | exact .here | apply Take.there)))))
            · omega
            · omega
          · intro hc29
            refine J.skip ?_
            refine At.next ?_
            refine J.seq ?_
            refine J.region ?_
            refine JL.rd ((by first | exact Rd.fld0 fld_51_1 (t20 rfl rfl) | exact Rd.fld fld_51_1 (t20 rfl rfl))) ?_
            refine JL.rd (Rd.ldN Try.isAgg49 (t0 rfl) (by repeat (first | exact .own | exact .rd | apply Blk.there)) (by repeat (first | exact .zero | apply Nth.succ))) ?_
            refine JL.rd (Rd.move (t19 rfl rfl)) ?_
            refine JL.rd (Rd.sIdx Try.runUnderlying49 Try.sizeOf65 (t1 rfl rfl) (t0 rfl) (SIn.rowR (by repeat (first | exact .here | apply Take.there))) (by simp) (by omega) (by omega)) ?_
            refine JL.rd (Rd.sLdA Try.isAgg65 Try.sizeOf65 (t0 rfl) (SIn.rowR (by repeat (first | exact .here | apply Take.there))) hx) ?_
            refine JL.ef (Ef.alloc Try.zeroValue65 rfl ?_)
            intro b32
            refine JL.ef0 (Ef.stB Try.sizeOf65 (t0 rfl) (t1 rfl rfl) (by repeat (first | exact .here | apply Rep.there)) (by repeat (first | exact .own | exact .rd | apply Blk.there)) (by first | rfl | assumption | simp_all) (by first | rfl | assumption | simp_all) (by first | exact bv_one _ | exact cons_one rfl (bv_one _) | (simp [Value.oneCell']; done) | (simp [Value.oneCell', str]; done)) (by decide) ?_)
            refine JL.nil ?_
            refine At.next ?_
            refine J.draw [⟨false, 0, 0⟩, ⟨false, 0, 0⟩, ⟨false, 0, 0⟩, ⟨false, 0, 0⟩, ⟨false, 0, 0⟩, ⟨false, 0, 0⟩, ⟨false, 0, 0⟩, ⟨false, 0, 0⟩, ⟨false, 0, 0⟩, ⟨false, 0, 0⟩, ⟨false, 0, 0⟩, ⟨false, 0, 0⟩, ⟨false, 0, 0⟩, ⟨false, 0, 0⟩, ⟨false, 0, 0⟩, ⟨false, 0, 0⟩, ⟨false, 0, 0⟩, ⟨false, 0, 0⟩, ⟨true, 0, 0⟩] [18] mixed rfl ?_
            refine DRun.at [] [0, 1, 2, 3, 4, 5, 6, 7, 8, 9, 10, 11, 12, 13, 14, 15, 16, 17] rfl rfl ?_ ?_
            · exact .nil
            refine DNew.rd rfl ((by first | exact Rd.fld0 fld_51_0 (t26 rfl rfl) | exact Rd.fldz fld_51_0 (t26 rfl rfl))) ?_
            refine DNew.rd rfl (Rd.ldN Try.isAgg48 (t0 rfl) (by repeat (first | exact .own | exact .rd | apply Blk.there)) (by repeat (first | exact .zero | apply Nth.succ))) ?_
            refine DNew.rd rfl ((by first | exact Rd.fld0 fld_65_0 (t2 rfl rfl) | exact Rd.fldz fld_65_0 (t2 rfl rfl))) ?_
            refine DNew.rd rfl (Rd.ldN Try.isAgg3 (t0 rfl) (by repeat (first | exact .own | exact .rd | apply Blk.there)) (by repeat (first | exact .zero | apply Nth.succ))) ?_
            refine DNew.rd rfl ((by first | exact Rd.fld0 fld_65_1 (t4 rfl rfl) | exact Rd.fld fld_65_1 (t4 rfl rfl))) ?_
            refine DNew.rd rfl (Rd.ldN Try.isAgg9 (t0 rfl) (by repeat (first | exact .own | exact .rd | apply Blk.there)) (by repeat (first | exact .zero | apply Nth.succ))) ?_
            refine DNew.rd rfl (Rd.move (t18 rfl rfl)) ?_
            refine DNew.rd rfl (Rd.strTo Try.runUnderlying9 (t1 rfl rfl) (t0 rfl) (by first | (simp; done) | (simp; omega) | omega | (simp [*]; done)) (by first | (simp; done) | (simp; omega) | omega | (simp [*]; done))) ?_
            refine DNew.rd rfl ((by first | exact Rd.fld0 fld_51_0 (t34 rfl rfl) | exact Rd.fldz fld_51_0 (t34 rfl rfl))) ?_
            refine DNew.rd rfl (Rd.ldN Try.isAgg48 (t0 rfl) (by repeat (first | exact .own | exact .rd | apply Blk.there)) (by repeat (first | exact .zero | apply Nth.succ))) ?_
            refine DNew.rd rfl ((by first | exact Rd.fld0 fld_65_0 (t10 rfl rfl) | exact Rd.fldz fld_65_0 (t10 rfl rfl))) ?_
            refine DNew.rd rfl (Rd.ldN Try.isAgg3 (t0 rfl) (by repeat (first | exact .own | exact .rd | apply Blk.there)) (by repeat (first | exact .zero | apply Nth.succ))) ?_
            refine DNew.rd rfl (Rd.sIdx Try.runUnderlying48 Try.sizeOf9 (t2 rfl rfl) (t0 rfl) (SIn.row (by repeat (first | exact .here | apply Take.there))) (by simp) (by omega) (by omega)) ?_
            refine DNew.rd rfl (Rd.sLd Try.isAgg9 (t0 rfl) (SIn.row (by repeat (first | exact .here | apply Take.there))) (by rw [Int.toNat_natCast]; exact hdg) rfl) ?_
            refine DNew.rd rfl (Rd.move (t26 rfl rfl)) ?_
            refine DNew.rd rfl (Rd.strFrom Try.runUnderlying9 (t1 rfl rfl) (t0 rfl) (by first | (simp; done) | (simp; omega) | omega | (simp [*]; done)) (by first | (simp; done) | (simp; omega) | omega | (simp [*]; done))) ?_
            refine DNew.rd rfl (Rd.str_add (t8 rfl rfl) (t0 rfl) (by first | (simp; done) | (simp; omega) | omega | (simp [*]; done))) ?_
            refine DNew.rd rfl (Rd.sIdx Try.runUnderlying48 Try.sizeOf9 (t15 rfl rfl) (t13 rfl rfl) (SIn.row (by repeat (first | exact .here | apply Take.there))) (by simp) (by omega) (by omega)) ?_
            refine DNew.nil ?_
            refine DRun.ef0 rfl (Ef.sSt Try.sizeOf9 (t0 rfl) (t1 rfl rfl) rfl (by repeat (first | exact .here | apply Take.there)) (by rw [Int.toNat_natCast]; exact hdg) (by decide) rfl ?_)
            refine DRun.end [] [] rfl rfl ?_ ?_
            · exact .nil
            refine DNew.nil ?_
            refine At.blkN ?_
            refine At.next ?_
            refine J.live (K := [(6, _), (5, _), (4, _), (2, _), (1, _)]) ⟨(lk41 rfl), (lk42 rfl), (lk43 rfl), (lk44 rfl), (lk45 rfl), trivial⟩ ?_
            intro ρ33
            refine J.region ?_
            refine JL.rd (Rd.move (t0 rfl)) ?_
            refine JL.rd (Rd.add (t0 rfl) Ev.c (w64 (by omega) (by omega))) ?_
            refine JL.rd (Rd.assign (t0 rfl)) ?_
            refine JL.nil ?_
            have hK : ∀ K : Int, K = (fateN (cs.getD x 0) : Int) → (durs D.n (D.back cs x)).set (p.1 : Int).toNat ([str (D.back cs x p.1)].set 0 (str (p.2.take K.toNat ++ (D.back cs x p.1).drop K.toNat))) = durs D.n (D.back cs (x + 1)) := fun K e => by rw [e, Dk.back_succ hp]; exact durs_set hpl1
            rw [hK _ (by unfold fateN; split <;> (try split) <;> omega)]
            refine At.again (x + 1) ?_ ?_ ⟨lk0.trans (by first | with_reducible rfl | (congr 1; omega) | (simp; done) | (simp [*]; done)), trivial⟩ ⟨(lk4 rfl), (lk5 rfl), (lk6 rfl), (lk7 rfl), trivial⟩ (fun _ => Stars.sel (by repeat (first | exact Sel.nil | apply Sel.cons (by repeat (first | exact .here | apply Take.there)))))
            · omega
            · omega
    · intro hc7
      obtain rfl : x = D.pend.length := by omega
      refine J.exit ?_
      refine At.nextX ?_
      refine At.loopX ?_
      refine At.blkX ?_
      refine At.next ?_
      refine J.seq ?_
      refine J.region ?_
      refine JL.rd ((by first | exact Rd.fld0 fld_51_1 (t8 rfl rfl) | exact Rd.fld fld_51_1 (t8 rfl rfl))) ?_
      refine JL.ef0 (Ef.st Try.sizeOf49 (t0 rfl) Ev.c rfl (by repeat (first | exact .here | apply Rep.there)) (by repeat (first | exact .own | exact .rd | apply Blk.there)) (by repeat (first | exact .zero | apply SetN.succ)) (by first | rfl | simp) ?_)
      refine JL.rd ((by first | exact Rd.fld0 fld_51_3 (t9 rfl rfl) | exact Rd.fld fld_51_3 (t9 rfl rfl))) ?_
      refine JL.ef0 (Ef.st Try.sizeOf4 (t0 rfl) Ev.c rfl (by repeat (first | exact .here | apply Rep.there)) (by repeat (first | exact .own | exact .rd | apply Blk.there)) (by repeat (first | exact .zero | apply SetN.succ)) (by first | rfl | simp) ?_)
      refine JL.rd ((by first | exact Rd.fld0 fld_51_2 (t10 rfl rfl) | exact Rd.fld fld_51_2 (t10 rfl rfl))) ?_
      refine JL.ef0 (Ef.st Try.sizeOf3 (t0 rfl) Ev.c rfl (by repeat (first | exact .here | apply Rep.there)) (by repeat (first | exact .own | exact .rd | apply Blk.there)) (by repeat (first | exact .zero | apply SetN.succ)) (by first | rfl | simp) ?_)
      refine JL.nil ?_
      refine At.next ?_
      refine J.seq ?_
      refine J.region ?_
      refine JL.rd (Rd.ldB Try.isAgg51 Try.sizeOf51 (t11 rfl rfl) (by repeat (first | exact .own | exact .rd | apply Blk.there)) (by first | rfl | assumption | simp_all)) ?_
      refine JL.ef0 (Ef.stB Try.sizeOf51 (t11 rfl rfl) (t0 rfl) (by repeat (first | exact .here | apply Rep.there)) (by repeat (first | exact .own | exact .rd | apply Blk.there)) (by first | rfl | assumption | simp_all) (by first | rfl | assumption | simp_all) (by first | exact bv_one _ | exact cons_one rfl (bv_one _) | (simp [Value.oneCell']; done) | (simp [Value.oneCell', str]; done)) (by decide) ?_)
      refine JL.rd (Rd.assign Ev.c) ?_
      refine JL.nil ?_
      refine At.next ?_
      refine J.ret ?_
      refine At.demote (by repeat (first | exact .here | apply Take.there)) ?_
      exact At.ret ((a5, c6, none, 0)) (trivial) (ResV.many (rs := [.cell 4 51, .tmp 5]) rfl (.agg Try.isAgg51 Try.sizeOf51 (t12 rfl rfl) (by repeat (first | exact .own | exact .rd | apply Blk.there)) (by first | rfl | assumption | simp_all) (.tmp (t0 rfl) .nil)) (by simp)) (by rw [hW, hC]; simp [refV, Dk.restarted]) (fun _ st => by rw [hW]; have s1 := Stars.sel (pre := [rowR a5 1 (durs D.n (D.back cs D.pend.length)), rowR none 2 [], A]) (by repeat (first | exact Sel.nil | apply Sel.cons (by repeat (first | exact .here | apply Take.there)))) (rowR_nil none 2 st); simpa [Dk.restarted] using s1)
end Go.Proofs.Ytfnoaohbjlnkgaa
