/-
  Walks, printed by mk.py.
-/
import Derived.Test.YtfnoaohbjlnkgaaR12
import Derived.Test.YtfnoaohbjlnkgaaR7
namespace Go.Proofs.Ytfnoaohbjlnkgaa
attribute [local irreducible] J JL At Rd Ef DNew DCar DRun Then RetQ LoopQ


set_option maxRecDepth 100000 in
set_option maxHeartbeats 400000 in
theorem dused_any (b : UInt8) (a : Option Addr) (cap : Nat) (l : List OpV) (sp : UInt8) (hl : l.length ≤ 9223372036854775807) :
    Fn Try.prog 8 [.int .u8 (b.toNat : Int), .slice a l.length cap, .int .u8 (sp.toNat : Int)] [opsIn a l] (X := Unit) (fun _ => True) (fun _ => .bool true) (fun _ => []) := by
  refine Fn.mk' (n := 63) (l := [(0, .int .u8 (b.toNat : Int)), (1, .slice a l.length cap), (2, .int .u8 (sp.toNat : Int))]) (fn := Try.f8) Try.func8 (by kernel_rfl) rfl rfl (by simp) rfl ?_
  intro h0 w0
  have hsl := sp.toNat_lt
  refine J.seq ?_
  refine J.region ?_
  refine JL.ef (Ef.box (t2 rfl rfl) rfl ?_)
  intro b1
  refine JL.ef (Ef.alloc Try.zeroValue4 rfl ?_)
  intro b2
  refine JL.nil ?_
  refine At.next ?_
  refine J.seq ?_
  refine J.seq ?_
  refine J.region ?_
  refine JL.ef (Ef.call .nil (known_any) (by repeat (first | exact Sel.nil | apply Sel.cons (by repeat (first | exact .here | apply Take.there)))) ?_)
  rintro - -
  simp only [List.cons_append, List.nil_append]
  refine JL.rd (Rd.not (EvB (t0 rfl) rfl)) ?_
  refine JL.nil ?_
  refine At.next ?_
  refine J.condF (EvB (t0 rfl) rfl) ?_
  refine J.skip ?_
  refine At.next ?_
  refine J.seq ?_
  refine J.region ?_
  refine JL.rd (Rd.move (t4 rfl rfl)) ?_
  refine JL.rd (Rd.move (t6 rfl rfl)) ?_
  refine JL.ef (Ef.call (.cons (t1 rfl rfl) (.cons (t0 rfl) .nil)) (play_any b a cap l hl) (by repeat (first | exact Sel.nil | apply Sel.cons (by repeat (first | exact .here | apply Take.there)))) ?_)
  rintro ⟨d, p1, q1, p2, q2⟩ -
  simp only [List.cons_append, List.nil_append]
  refine JL.rd (Rd.move (t0 rfl)) ?_
  refine JL.rd (Rd.extract (t0 rfl) (by repeat (first | exact .zero | apply Nth.succ))) ?_
  refine JL.rd (Rd.extract (t1 rfl rfl) (by repeat (first | exact .zero | apply Nth.succ))) ?_
  refine JL.rd (Rd.extract (t2 rfl rfl) (by repeat (first | exact .zero | apply Nth.succ))) ?_
  refine JL.ef (Ef.alloc Try.zeroValue23 rfl ?_)
  intro b3
  refine JL.ef (Ef.alloc Try.zeroValue51 rfl ?_)
  intro b4
  refine JL.ef0 (Ef.st Try.sizeOf23 (t1 rfl rfl) (t4 rfl rfl) rfl (by repeat (first | exact .here | apply Rep.there)) (by repeat (first | exact .own | exact .rd | apply Blk.there)) (by repeat (first | exact .zero | apply SetN.succ)) (by first | rfl | simp) ?_)
  refine JL.ef0 (Ef.stB Try.sizeOf51 (t0 rfl) (t3 rfl rfl) (by repeat (first | exact .here | apply Rep.there)) (by repeat (first | exact .own | exact .rd | apply Blk.there)) (by first | rfl | assumption | simp_all) (by first | rfl | assumption | simp_all) (by first | exact bv_one _ | exact cons_one rfl (bv_one _) | (simp [Value.oneCell']; done) | (simp [Value.oneCell', str]; done)) (by decide) ?_)
  refine JL.rd (Rd.assign (t2 rfl rfl)) ?_
  refine JL.nil ?_
  refine At.next ?_
  refine J.seq ?_
  refine J.seq ?_
  generalize hE : (playD (newD (1 + b.toNat % 8)) l (min l.length 30)) = E
  obtain ⟨hops, hpend, hn⟩ := playD_ops (newD (1 + b.toNat % 8)) l (min l.length 30)
  rw [hE] at hops hpend hn
  have ho0 : (newD (1 + b.toNat % 8)).ops = 0 := rfl
  have hp0 : (newD (1 + b.toNat % 8)).pend.length = 0 := rfl
  have hnn : (newD (1 + b.toNat % 8)).n = 1 + b.toNat % 8 := rfl
  refine J.know (fun h s => dk_wf (Stars.sel (pre := [dk d E]) (by repeat (first | exact Sel.nil | apply Sel.cons (by repeat (first | exact .here | apply Take.there)))) s)) ?_
  intro hwE
  refine J.region ?_
  refine JL.rd (Rd.move (t0 rfl)) ?_
  refine JL.rd (Rd.not (EvB (t0 rfl) rfl)) ?_
  refine JL.nil ?_
  refine At.next ?_
  refine J.condF (EvB (t0 rfl) rfl) ?_
  refine J.skip ?_
  refine At.next ?_
  refine J.seq ?_
  refine J.region ?_
  refine JL.rd (Rd.ldB Try.isAgg51 Try.sizeOf51 (t3 rfl rfl) (by repeat (first | exact .own | exact .rd | apply Blk.there)) (by first | rfl | assumption | simp_all)) ?_
  refine JL.ef (Ef.call (.cons (t0 rfl) .nil) (rused_any p1 p2 q1 q2 E hwE) (by repeat (first | exact Sel.nil | apply Sel.cons (by repeat (first | exact .here | apply Take.there)))) ?_)
  rintro ⟨wa, wc⟩ -
  simp only [List.cons_append, List.nil_append]
  refine JL.ef (Ef.alloc Try.zeroValue34 rfl ?_)
  intro b5
  refine JL.ef0 (Ef.st Try.sizeOf34 (t0 rfl) (t1 rfl rfl) rfl (by repeat (first | exact .here | apply Rep.there)) (by repeat (first | exact .own | exact .rd | apply Blk.there)) (by repeat (first | exact .zero | apply SetN.succ)) (by first | rfl | simp) ?_)
  refine JL.nil ?_
  refine At.next ?_
  refine J.seq ?_
  refine J.region ?_
  refine JL.ef (Ef.alloc Try.zeroValue3 rfl ?_)
  intro b6
  refine JL.ef0 (Ef.st Try.sizeOf3 (t0 rfl) Ev.c rfl (by repeat (first | exact .here | apply Rep.there)) (by repeat (first | exact .own | exact .rd | apply Blk.there)) (by repeat (first | exact .zero | apply SetN.succ)) (by first | rfl | simp) ?_)
  refine JL.nil ?_
  refine At.next ?_
  refine J.seq ?_
  refine J.seq ?_
  refine J.region ?_
  refine JL.rd (Rd.ldN Try.isAgg23 (t8 rfl rfl) (by repeat (first | exact .own | exact .rd | apply Blk.there)) (by repeat (first | exact .zero | apply Nth.succ))) ?_
  refine JL.ef (Ef.call (.cons (t0 rfl) .nil) (used_any (some ⟨d, 0, none⟩)) (by repeat (first | exact Sel.nil | apply Sel.cons (by repeat (first | exact .here | apply Take.there)))) ?_)
  rintro bb -
  simp only [List.cons_append, List.nil_append]
  refine JL.nil ?_
  refine At.next ?_
  refine J.block ?_
  refine J.live (K := [(27, _), (11, _), (10, _), (7, _), (6, _), (5, _)]) ⟨lk0, (lk2 rfl), (lk3 rfl), (lk10 rfl), (lk20 rfl), (lk21 rfl), trivial⟩ ?_
  intro ρ7
  refine J.rangeFuncP (pk := [dk d E]) (F := [pts b1 (.cells [.int .u8 (sp.toNat : Int)].toArray 5), pts b2 (.cells [.bool false].toArray 4), pts b3 (.cells [.pointer (some ⟨d, 0, none⟩)].toArray 23), pts b5 (.cells [.slice wa (useds E).length wc].toArray 34), row wa wc 3 1 (useV (useds E)), pts b6 (.cells [.int .i64 ((0 : Nat) : Int)].toArray 3), pure_ (0 < 1 + sp.toNat % 8)]) (own := [pts bb (.cells [.pointer (some ⟨d, 0, none⟩)].toArray 23)]) (own' := [pts bb (.cells [.pointer (some ⟨d, 0, none⟩)].toArray 23)]) (xs := useV (useds E)) (fun k => [dk d (wz E (useds E) k), pts b1 (.cells [.int .u8 (sp.toNat : Int)].toArray 5), pts b2 (.cells [.bool false].toArray 4), pts b3 (.cells [.pointer (some ⟨d, 0, none⟩)].toArray 23), pts b5 (.cells [.slice wa (useds E).length wc].toArray 34), row wa wc 3 1 (useV (useds E)), pts b6 (.cells [.int .i64 ((k : Nat) : Int)].toArray 3), pure_ (k < 1 + sp.toNat % 8)]) (fun k c => [dk d (wz E (useds E) (k + 1)), pts b1 (.cells [.int .u8 (sp.toNat : Int)].toArray 5), pts b2 (.cells [.bool false].toArray 4), pts b3 (.cells [.pointer (some ⟨d, 0, none⟩)].toArray 23), pts b5 (.cells [.slice wa (useds E).length wc].toArray 34), row wa wc 3 1 (useV (useds E)), pts b6 (.cells [.int .i64 (((k + 1) : Nat) : Int)].toArray 3), pure_ (c = .exit 0 ∧ k + 1 = 1 + sp.toNat % 8)]) (t0 rfl) (used_iter bb d E) (used1_ent) (by repeat (first | exact Sel.nil | apply Sel.cons (by repeat (first | exact .here | apply Take.there)))) (fun x hx => use_one rfl x hx) (fun _ s => by have s1 := Stars.factE (p := 0 < 1 + sp.toNat % 8) (by omega) s; simp only [List.cons_append, List.nil_append] at s1; exact Stars.sel (by repeat (first | exact Sel.nil | apply Sel.cons (by repeat (first | exact .here | apply Take.there)))) s1) (fun _ => Iff.rfl) ?_ ?_ ?_
  · intro l r0 fn k x h0 w0 hx
    simp only [useV, List.getElem?_map, Option.map_eq_some_iff] at hx
    obtain ⟨i, hi, rfl⟩ := hx
    have hk := (List.getElem?_eq_some_iff.1 hi).1
    have hx2 : (useV (useds E))[(k : Int).toNat]? = some [.int .i64 (i : Int)] := by simp [useV, hi]
    have hk1 : ((k : Int) + 1) = ((k + 1 : Nat) : Int) := rfl
    have hwz := wz_ops E (useds E) k
    refine J.openP (by repeat (first | exact .here | apply Take.there)) ?_
    intro hks
    simp only [List.zip_cons_cons, List.zip_nil_right, List.zip_nil_left, setp_ext, setp_nil]
    refine J.region ?_
    refine JL.rd (Rd.assign (t0 rfl)) ?_
    refine JL.nil ?_
    refine At.asg (by repeat (first | exact .own | exact .rd | apply Blk.there)) (by repeat (first | exact .here | apply Rep.there)) ?_
    refine J.block ?_
    refine J.seq ?_
    refine J.seq ?_
    refine J.region ?_
    refine JL.rd (Rd.ldN Try.isAgg3 (t3 rfl rfl) (by repeat (first | exact .own | exact .rd | apply Blk.there)) (by repeat (first | exact .zero | apply Nth.succ))) ?_
    refine JL.rd (Rd.ldN Try.isAgg34 (t5 rfl rfl) (by repeat (first | exact .own | exact .rd | apply Blk.there)) (by repeat (first | exact .zero | apply Nth.succ))) ?_
    refine JL.rd (Rd.len Try.runUnderlying34 (t0 rfl)) ?_
    refine JL.rd (Rd.geq (t2 rfl rfl) (t0 rfl)) ?_
    refine JL.rd (Rd.move (t0 rfl)) ?_
    refine JL.rdG rfl (EvB (t0 rfl) (decide_eq_false (by omega))) rfl (Rd.move (t5 rfl rfl)) ?_
    refine JL.rdG rfl (EvB (t1 rfl rfl) (decide_eq_false (by omega))) rfl (Rd.ldN Try.isAgg34 (t10 rfl rfl) (by repeat (first | exact .own | exact .rd | apply Blk.there)) (by repeat (first | exact .zero | apply Nth.succ))) ?_
    refine JL.rdG rfl (EvB (t2 rfl rfl) (decide_eq_false (by omega))) rfl (Rd.ldN Try.isAgg3 (t10 rfl rfl) (by repeat (first | exact .own | exact .rd | apply Blk.there)) (by repeat (first | exact .zero | apply Nth.succ))) ?_
    refine JL.rdG rfl (EvB (t3 rfl rfl) (decide_eq_false (by omega))) rfl (Rd.sIdx Try.runUnderlying34 Try.sizeOf3 (t1 rfl rfl) (t0 rfl) (SIn.row (by repeat (first | exact .here | apply Take.there))) (by simp) (by omega) (by omega)) ?_
    refine JL.rdG rfl (EvB (t4 rfl rfl) (decide_eq_false (by omega))) rfl (Rd.sLd Try.isAgg3 (t0 rfl) (SIn.row (by repeat (first | exact .here | apply Take.there))) hx2 rfl) ?_
    refine JL.rdG rfl (EvB (t5 rfl rfl) (decide_eq_false (by omega))) rfl (Rd.neq (t4 rfl rfl) (t0 rfl)) ?_
    refine JL.rd (Rd.pickF (EvB (t6 rfl rfl) (decide_eq_false (by omega))) (t0 rfl)) ?_
    refine JL.nil ?_
    refine At.next ?_
    refine J.condF (EvB (t0 rfl) (decide_eq_false (fun h => h rfl))) ?_
    refine J.skip ?_
    refine At.next ?_
    refine J.seq ?_
    refine J.region ?_
    refine JL.rd (Rd.ldN Try.isAgg3 (t15 rfl rfl) (by repeat (first | exact .own | exact .rd | apply Blk.there)) (by repeat (first | exact .zero | apply Nth.succ))) ?_
    refine JL.rd (Rd.add (t0 rfl) Ev.c (w64 (by omega) (by omega))) ?_
    refine JL.ef0 (Ef.st Try.sizeOf3 (t17 rfl rfl) (t0 rfl) rfl (by repeat (first | exact .here | apply Rep.there)) (by repeat (first | exact .own | exact .rd | apply Blk.there)) (by repeat (first | exact .zero | apply SetN.succ)) (by first | rfl | simp) ?_)
    rw [hk1]
    refine JL.nil ?_
    refine At.next ?_
    refine J.seq ?_
    refine J.draw [⟨false, 0, 2⟩, ⟨false, 0, 2⟩, ⟨true, 0, 0⟩, ⟨true, 1, 1⟩, ⟨true, 2, 2⟩] [2, 3, 4] mixed rfl ?_
    refine DRun.at [] [0, 1] rfl rfl ?_ ?_
    · exact .nil
    refine DNew.rd rfl (Rd.ldN Try.isAgg23 (t19 rfl rfl) (by repeat (first | exact .own | exact .rd | apply Blk.there)) (by repeat (first | exact .zero | apply Nth.succ))) ?_
    refine DNew.rd rfl (Rd.move (t15 rfl rfl)) ?_
    refine DNew.nil ?_
    refine DRun.ef rfl (Ef.call .nil (zero_any) (by repeat (first | exact Sel.nil | apply Sel.cons (by repeat (first | exact .here | apply Take.there)))) ?_)
    rintro - -
    simp only [List.cons_append, List.nil_append]
    refine DRun.at [0, 1] [] rfl rfl ?_ ?_
    · refine DCar.rd rfl (lk2 rfl) (Rd.ldN Try.isAgg23 (t22 rfl rfl) (by repeat (first | exact .own | exact .rd | apply Blk.there)) (by repeat (first | exact .zero | apply Nth.succ))) ?_
      refine DCar.rd rfl (lk1 rfl) (Rd.move (t17 rfl rfl)) ?_
      exact .nil
    refine DNew.nil ?_
    refine DRun.ef rfl (Ef.ofStr Try.underlying9 Try.underlying28 Try.underlying5 (t0 rfl) (by first | (simp [maxLen]; done) | (simp [maxLen]; omega) | (simp only [maxLen]; omega)) ?_)
    intro b8 c9
    refine DRun.at [0, 1] [] rfl rfl ?_ ?_
    · refine DCar.rd rfl (lk3 rfl) (Rd.ldN Try.isAgg23 (t23 rfl rfl) (by repeat (first | exact .own | exact .rd | apply Blk.there)) (by repeat (first | exact .zero | apply Nth.succ))) ?_
      refine DCar.rd rfl (lk2 rfl) (Rd.move (t18 rfl rfl)) ?_
      exact .nil
    refine DNew.nil ?_
    refine DRun.ef rfl (Ef.call (.cons (t3 rfl rfl) (.cons (t2 rfl rfl) (.cons (t0 rfl) .nil))) (write_any d (wz E (useds E) k) (i : Int) _ _ zb (by omega) (by omega)) (by repeat (first | exact Sel.nil | apply Sel.cons (by repeat (first | exact .here | apply Take.there)))) ?_)
    rintro - -
    simp only [List.cons_append, List.nil_append]
    refine DRun.end [] [] rfl rfl ?_ ?_
    · exact .nil
    refine DNew.nil ?_
    refine At.next ?_
    refine J.seq ?_
    refine J.region ?_
    refine JL.rd (Rd.ldN Try.isAgg3 (t22 rfl rfl) (by repeat (first | exact .own | exact .rd | apply Blk.there)) (by repeat (first | exact .zero | apply Nth.succ))) ?_
    refine JL.rd (Rd.ldN Try.isAgg5 (t27 rfl rfl) (by repeat (first | exact .own | exact .rd | apply Blk.there)) (by repeat (first | exact .zero | apply Nth.succ))) ?_
    refine JL.rd (Rd.rem (t0 rfl) Ev.c (by omega) (by omega)) ?_
    refine JL.rd (Rd.conv (t0 rfl) (fun w => ⟨_, Try.runUnderlying5 w⟩) Try.runUnderlying3 (w64 (by omega) (by omega))) ?_
    refine JL.rd (Rd.add Ev.c (t0 rfl) (w64 (by omega) (by omega))) ?_
    refine JL.rd (Rd.eql (t4 rfl rfl) (t0 rfl)) ?_
    refine JL.nil ?_
    refine At.next ?_
    refine J.condD (t0 rfl) ?_ ?_
    · intro hc10
      refine J.exit ?_
      refine At.blkY rfl ?_
      exact At.rndE (by repeat (first | exact .own | exact .rd | apply Blk.there)) (by repeat (first | exact .here | apply Rep.there)) (fun _ s => by rw [← wz_succ hi] at s; have s1 := Stars.factE (p := Code.exit 0 = .exit 0 ∧ k + 1 = 1 + sp.toNat % 8) ⟨rfl, by omega⟩ s; simp only [List.cons_append, List.nil_append] at s1; refine exL_mk (Code.exit 0) ?_; simp only [List.cons_append, List.nil_append]; exact Stars.sel (by repeat (first | exact Sel.nil | apply Sel.cons (by repeat (first | exact .here | apply Take.there)))) s1)
    · intro hc10
      refine J.skip ?_
      refine At.blkN ?_
      exact At.rndN (by repeat (first | exact .own | exact .rd | apply Blk.there)) (by repeat (first | exact .here | apply Rep.there)) (fun _ s => by rw [← wz_succ hi] at s; have s1 := Stars.factE (p := k + 1 < 1 + sp.toNat % 8) (by omega) s; simp only [List.cons_append, List.nil_append] at s1; exact Stars.sel (by repeat (first | exact Sel.nil | apply Sel.cons (by repeat (first | exact .here | apply Take.there)))) s1)
  · intro r0
    simp only [List.cons_append, List.nil_append]
    refine At.openP (by repeat (first | exact .here | apply Take.there)) ?_
    intro hno
    simp only [useV_length] at hno ⊢
    refine At.blkN ?_
    refine At.next ?_
    refine J.seq ?_
    refine J.region ?_
    refine JL.rd (Rd.ldN Try.isAgg3 (t1 rfl rfl) (by repeat (first | exact .own | exact .rd | apply Blk.there)) (by repeat (first | exact .zero | apply Nth.succ))) ?_
    refine JL.rd (Rd.ldN Try.isAgg34 (t3 rfl rfl) (by repeat (first | exact .own | exact .rd | apply Blk.there)) (by repeat (first | exact .zero | apply Nth.succ))) ?_
    refine JL.rd (Rd.len Try.runUnderlying34 (t0 rfl)) ?_
    refine JL.rd (Rd.ldN Try.isAgg5 (t8 rfl rfl) (by repeat (first | exact .own | exact .rd | apply Blk.there)) (by repeat (first | exact .zero | apply Nth.succ))) ?_
    refine JL.rd (Rd.rem (t0 rfl) Ev.c (by omega) (by omega)) ?_
    refine JL.rd (Rd.conv (t0 rfl) (fun w => ⟨_, Try.runUnderlying5 w⟩) Try.runUnderlying3 (w64 (by omega) (by omega))) ?_
    refine JL.rd (Rd.add Ev.c (t0 rfl) (w64 (by omega) (by omega))) ?_
    refine JL.rd (Rd.min2 (t4 rfl rfl) (t0 rfl)) ?_
    refine JL.rd (Rd.eql (t7 rfl rfl) (t0 rfl)) ?_
    refine JL.ef0 (Ef.st Try.sizeOf4 (t13 rfl rfl) (t0 rfl) rfl (by repeat (first | exact .here | apply Rep.there)) (by repeat (first | exact .own | exact .rd | apply Blk.there)) (by repeat (first | exact .zero | apply SetN.succ)) (by first | rfl | simp) ?_)
    refine JL.nil ?_
    refine At.next ?_
    refine J.ret ?_
    exact At.retM (()) (trivial) (by repeat (first | exact .here | apply Take.there)) (ResV.cell1 rfl Try.isAgg4 (t13 rfl rfl) (by repeat (first | exact .own | exact .rd | apply Blk.there))) (congrArg Value.bool (decide_eq_true (by omega))) (fun _ => Stars.sel (by repeat (first | exact Sel.nil | apply Sel.cons (by repeat (first | exact .here | apply Take.there)))))
  · intro r0 k c hk
    simp only [List.cons_append, List.nil_append]
    rw [useV_length] at hk
    refine J.openP (by repeat (first | exact .here | apply Take.there)) ?_
    rintro ⟨rfl, hks⟩
    refine J.exit ?_
    refine At.blkX ?_
    refine At.next ?_
    refine J.seq ?_
    refine J.region ?_
    refine JL.rd (Rd.ldN Try.isAgg3 (t1 rfl rfl) (by repeat (first | exact .own | exact .rd | apply Blk.there)) (by repeat (first | exact .zero | apply Nth.succ))) ?_
    refine JL.rd (Rd.ldN Try.isAgg34 (t3 rfl rfl) (by repeat (first | exact .own | exact .rd | apply Blk.there)) (by repeat (first | exact .zero | apply Nth.succ))) ?_
    refine JL.rd (Rd.len Try.runUnderlying34 (t0 rfl)) ?_
    refine JL.rd (Rd.ldN Try.isAgg5 (t8 rfl rfl) (by repeat (first | exact .own | exact .rd | apply Blk.there)) (by repeat (first | exact .zero | apply Nth.succ))) ?_
    refine JL.rd (Rd.rem (t0 rfl) Ev.c (by omega) (by omega)) ?_
    refine JL.rd (Rd.conv (t0 rfl) (fun w => ⟨_, Try.runUnderlying5 w⟩) Try.runUnderlying3 (w64 (by omega) (by omega))) ?_
    refine JL.rd (Rd.add Ev.c (t0 rfl) (w64 (by omega) (by omega))) ?_
    refine JL.rd (Rd.min2 (t4 rfl rfl) (t0 rfl)) ?_
    refine JL.rd (Rd.eql (t7 rfl rfl) (t0 rfl)) ?_
    refine JL.ef0 (Ef.st Try.sizeOf4 (t13 rfl rfl) (t0 rfl) rfl (by repeat (first | exact .here | apply Rep.there)) (by repeat (first | exact .own | exact .rd | apply Blk.there)) (by repeat (first | exact .zero | apply SetN.succ)) (by first | rfl | simp) ?_)
    refine JL.nil ?_
    refine At.next ?_
    refine J.ret ?_
    exact At.retM (()) (trivial) (by repeat (first | exact .here | apply Take.there)) (ResV.cell1 rfl Try.isAgg4 (t13 rfl rfl) (by repeat (first | exact .own | exact .rd | apply Blk.there))) (congrArg Value.bool (decide_eq_true (by omega))) (fun _ => Stars.sel (by repeat (first | exact Sel.nil | apply Sel.cons (by repeat (first | exact .here | apply Take.there)))))
end Go.Proofs.Ytfnoaohbjlnkgaa
