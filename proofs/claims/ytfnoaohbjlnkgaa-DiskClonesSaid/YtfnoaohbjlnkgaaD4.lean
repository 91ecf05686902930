/-
  Walks, printed by mk.py.
-/
import Derived.Test.YtfnoaohbjlnkgaaD3
namespace Go.Proofs.Ytfnoaohbjlnkgaa
attribute [local irreducible] J JL At Rd Ef DNew DCar DRun Then RetQ LoopQ


set_option maxRecDepth 100000 in
set_option maxHeartbeats 400000 in
theorem visible_any (d : Nat) (D : Dk) (i : Nat) (hi : i < D.n) :
    Fn Try.prog 41 [.pointer (some ⟨d, 0, none⟩), .int .i64 (i : Int)] [dk d D] (X := Unit) (fun _ => True) (fun _ => .agg (bv (D.vis i)).toArray) (fun _ => [dk d D]) := by
  refine Fn.mk' (n := 26) (l := [(0, .pointer (some ⟨d, 0, none⟩)), (1, .int .i64 (i : Int))]) (fn := Try.f41) Try.func41 (by kernel_rfl) rfl rfl (by simp) rfl ?_
  intro h0 w0
  refine J.openA dk_open ?_
  rintro ⟨m, mp, a, cap⟩ ⟨hwf, hdur⟩
  simp only [dparts, List.cons_append, List.nil_append]
  have hvl := hwf.vis i
  refine J.seq ?_
  refine J.region ?_
  refine JL.ef (Ef.box (t1 rfl rfl) rfl ?_)
  intro b1
  refine JL.ef (Ef.alloc zero0 rfl ?_)
  intro b2
  refine JL.nil ?_
  refine At.next ?_
  refine J.seq ?_
  refine J.seq ?_
  refine J.region ?_
  refine JL.rd (Rd.move (t2 rfl rfl)) ?_
  refine JL.rd (Rd.nil (t0 rfl)) ?_
  refine JL.rd ((by first | exact Rd.fld0 fld_81_2 (t0 rfl) | exact Rd.fld fld_81_2 (t0 rfl))) ?_
  refine JL.rd (Rd.ldN Try.isAgg79 (t0 rfl) (by repeat (first | exact .own | exact .rd | apply Blk.there)) (by repeat (first | exact .zero | apply Nth.succ))) ?_
  refine JL.ef (Ef.call (.cons (t0 rfl) .nil) (backward_any a D.pend.length cap) (by repeat (first | exact Sel.nil | apply Sel.cons (by repeat (first | exact .here | apply Take.there)))) ?_)
  rintro bb -
  simp only [List.cons_append, List.nil_append]
  refine JL.nil ?_
  refine At.next ?_
  refine J.block ?_
  refine J.live (K := [(11, _), (4, _), (3, _), (0, _)]) ⟨lk0, (lk5 rfl), (lk6 rfl), (lk7 rfl), trivial⟩ ?_
  intro ρ3
  refine J.rangeFunc (own := [pts bb (.cells [.slice a D.pend.length cap].toArray 79), row a cap 86 513 (D.pend.map pcell)]) (own' := [pts bb (.cells [.slice a D.pend.length cap].toArray 79), row a cap 86 513 (D.pend.map pcell)]) (xs := backs (D.pend.map pcell)) (fun k => [pts d (.cells [.int .i64 D.n, .map (some m), .slice a D.pend.length cap, .int .i64 D.ops, .int .i64 D.lim, .bool D.down].toArray 81), imap m mp, pts b1 (.cells [.int .i64 (i : Int)].toArray 3), pts b2 (.cells (bv zb).toArray 84), pure_ (∀ q ∈ D.pend.drop (D.pend.length - k), q.1 ≠ i)]) (fun k c => [pts d (.cells [.int .i64 D.n, .map (some m), .slice a D.pend.length cap, .int .i64 D.ops, .int .i64 D.lim, .bool D.down].toArray 81), imap m mp, pts b2 (.cells (bv (D.vis i)).toArray 84), pure_ (c = .ret)]) (t0 rfl) (backward_iter bb cap a (D.pend.map pcell) _ (by simp) (by have := hwf.plen; omega)) (backward1_ent) (by repeat (first | exact Sel.nil | apply Sel.cons (by repeat (first | exact .here | apply Take.there)))) (fun x hx => backs_two hx) (fun _ s => by have s1 := Stars.factE (p := ∀ q ∈ D.pend.drop (D.pend.length - 0), q.1 ≠ i) (by simp) s; simp only [List.cons_append, List.nil_append] at s1; exact Stars.sel (by repeat (first | exact Sel.nil | apply Sel.cons (by repeat (first | exact .here | apply Take.there)))) s1) ?_ ?_ ?_
  · intro l r0 fn k x h0 w0 hx
    obtain ⟨hk, u, hu, rfl⟩ := backs_get hx
    simp only [List.getElem?_map, Option.map_eq_some_iff, List.length_map] at hu hk
    obtain ⟨p, hp, (rfl : .int .i64 (p.1 : Int) :: bv p.2 = u)⟩ := hu
    have hpl := (hwf.pend p (List.mem_of_getElem? hp)).2
    refine J.openP (by repeat (first | exact .here | apply Take.there)) ?_
    intro hno
    simp only [List.zip_cons_cons, List.zip_nil_right, List.zip_nil_left, setp_ext, setp_nil]
    refine J.region ?_
    refine JL.ef (Ef.alloc zeroP rfl ?_)
    intro b4
    refine JL.ef0 (Ef.stB Try.sizeOf86 (t0 rfl) (t1 rfl rfl) (by repeat (first | exact .here | apply Rep.there)) (by repeat (first | exact .own | exact .rd | apply Blk.there)) (by first | rfl | assumption | simp_all) (by first | rfl | assumption | simp_all) (by first | exact bv_one _ | exact cons_one rfl (bv_one _) | (simp [Value.oneCell']; done) | (simp [Value.oneCell', str]; done)) (by decide) ?_)
    refine JL.nil ?_
    refine At.asg (by repeat (first | exact .own | exact .rd | apply Blk.there)) (by repeat (first | exact .here | apply Rep.there)) ?_
    refine J.block ?_
    refine J.seq ?_
    refine J.region ?_
    refine JL.rd ((by first | exact Rd.fld0 fld_86_0 (t0 rfl) | exact Rd.fldz fld_86_0 (t0 rfl))) ?_
    refine JL.rd (Rd.ldN Try.isAgg3 (t0 rfl) (by repeat (first | exact .own | exact .rd | apply Blk.there)) (by repeat (first | exact .zero | apply Nth.succ))) ?_
    refine JL.rd (Rd.ldN Try.isAgg3 (t7 rfl rfl) (by repeat (first | exact .own | exact .rd | apply Blk.there)) (by repeat (first | exact .zero | apply Nth.succ))) ?_
    refine JL.rd (Rd.eql (t1 rfl rfl) (t0 rfl)) ?_
    refine JL.nil ?_
    refine At.next ?_
    refine J.condD (t0 rfl) ?_ ?_
    · intro hc5
      have hv : D.vis i = p.2 := Dk.vis_hit hk hp hno (by omega)
      refine J.seq ?_
      refine J.region ?_
      refine JL.rd ((by first | exact Rd.fld0 fld_86_1 (t4 rfl rfl) | exact Rd.fld fld_86_1 (t4 rfl rfl))) ?_
      refine JL.rd (Rd.ldA (vs := bv p.2) Try.isAgg84 Try.sizeOf84 (t0 rfl) (by repeat (first | exact .own | exact .rd | apply Blk.there)) (by show List.take 512 (bv p.2) = bv p.2; exact List.take_of_length_le (by simp [hpl])) (by simp [hpl])) ?_
      refine JL.ef0 (Ef.stB Try.sizeOf84 (t10 rfl rfl) (t0 rfl) (by repeat (first | exact .here | apply Rep.there)) (by repeat (first | exact .own | exact .rd | apply Blk.there)) (by first | rfl | assumption | simp_all) (by first | rfl | assumption | simp_all) (by first | exact bv_one _ | exact cons_one rfl (bv_one _) | (simp [Value.oneCell']; done) | (simp [Value.oneCell', str]; done)) (by decide) ?_)
      refine JL.nil ?_
      refine At.next ?_
      refine J.ret ?_
      refine At.blkR ?_
      exact At.rndR (by repeat (first | exact .own | exact .rd | apply Blk.there)) (by repeat (first | exact .here | apply Rep.there)) (fun _ s => by have s1 := Stars.factE (p := Code.ret = .ret) rfl s; simp only [List.cons_append, List.nil_append] at s1; refine exL_mk Code.ret ?_; simp only [List.cons_append, List.nil_append, hv]; exact Stars.sel (by repeat (first | exact Sel.nil | apply Sel.cons (by repeat (first | exact .here | apply Take.there)))) s1)
    · intro hc5
      have hno2 : ∀ q ∈ D.pend.drop (D.pend.length - (k + 1)), q.1 ≠ i := by rw [drop_step hk hp]; exact fun q hq => (List.mem_cons.1 hq).elim (fun e e' => hc5 (by rw [← e', e])) (hno q)
      refine J.skip ?_
      refine At.blkN ?_
      exact At.rndN (by repeat (first | exact .own | exact .rd | apply Blk.there)) (by repeat (first | exact .here | apply Rep.there)) (fun _ s => by have s1 := Stars.factE (p := ∀ q ∈ D.pend.drop (D.pend.length - (k + 1)), q.1 ≠ i) hno2 s; simp only [List.cons_append, List.nil_append] at s1; exact Stars.sel (by repeat (first | exact Sel.nil | apply Sel.cons (by repeat (first | exact .here | apply Take.there)))) s1)
  · intro r0
    simp only [List.cons_append, List.nil_append]
    refine At.openP (by repeat (first | exact .here | apply Take.there)) ?_
    intro hno
    rw [backs_length, List.length_map, Nat.sub_self, List.drop_zero] at hno
    refine At.blkN ?_
    refine At.next ?_
    refine J.seq ?_
    refine J.draw [⟨false, 0, 0⟩, ⟨false, 0, 0⟩, ⟨false, 0, 0⟩, ⟨false, 0, 0⟩, ⟨false, 0, 0⟩, ⟨false, 0, 0⟩, ⟨true, 0, 0⟩] [6] mixed rfl ?_
    refine DRun.at [] [0, 1, 2, 3, 4, 5] rfl rfl ?_ ?_
    · exact .nil
    refine DNew.rd rfl (Rd.move (t3 rfl rfl)) ?_
    refine DNew.rd rfl (Rd.nil (t0 rfl)) ?_
    refine DNew.rd rfl ((by first | exact Rd.fld0 fld_81_1 (t0 rfl) | exact Rd.fld fld_81_1 (t0 rfl))) ?_
    refine DNew.rd rfl (Rd.ldN Try.isAgg78 (t0 rfl) (by repeat (first | exact .own | exact .rd | apply Blk.there)) (by repeat (first | exact .zero | apply Nth.succ))) ?_
    refine DNew.rd rfl (Rd.ldN Try.isAgg3 (t6 rfl rfl) (by repeat (first | exact .own | exact .rd | apply Blk.there)) (by repeat (first | exact .zero | apply Nth.succ))) ?_
    refine DNew.rd rfl (Rd.lookup (v := .agg (bv (D.vis i)).toArray) Try.runUnderlying78 Try.runUnderlying3 zero0 (t1 rfl rfl) (t0 rfl) (by repeat (first | exact .here | apply Take.there)) (by rw [Dk.vis_none hno]; exact dur_get hdur hi)) ?_
    refine DNew.nil ?_
    refine DRun.ef0 rfl (Ef.stB Try.sizeOf84 (t7 rfl rfl) (t0 rfl) (by repeat (first | exact .here | apply Rep.there)) (by repeat (first | exact .own | exact .rd | apply Blk.there)) (by first | rfl | assumption | simp_all) (by first | rfl | assumption | simp_all) (by first | exact bv_one _ | exact cons_one rfl (bv_one _) | (simp [Value.oneCell']; done) | (simp [Value.oneCell', str]; done)) (by decide) ?_)
    refine DRun.end [] [] rfl rfl ?_ ?_
    · exact .nil
    refine DNew.nil ?_
    refine At.next ?_
    refine J.ret ?_
    exact At.retM (()) (trivial) (by repeat (first | exact .here | apply Take.there)) (ResV.cell rfl Try.isAgg84 Try.sizeOf84 (t7 rfl rfl) (by repeat (first | exact .own | exact .rd | apply Blk.there)) (by first | rfl | assumption | simp_all)) rfl (fun _ s => dk_shut hwf hdur (Stars.sel (by repeat (first | exact Sel.nil | apply Sel.cons (by repeat (first | exact .here | apply Take.there)))) s))
  · intro r0 k c hk
    simp only [List.cons_append, List.nil_append]
    refine J.openP (by repeat (first | exact .here | apply Take.there)) ?_
    rintro rfl
    refine J.ret ?_
    refine At.blkR ?_
    refine At.nextR ?_
    exact At.retM (()) (trivial) (by repeat (first | exact .here | apply Take.there)) (ResV.cell rfl Try.isAgg84 Try.sizeOf84 (t1 rfl rfl) (by repeat (first | exact .own | exact .rd | apply Blk.there)) (by first | rfl | assumption | simp_all)) rfl (fun _ s => dk_shut hwf hdur (Stars.sel (by repeat (first | exact Sel.nil | apply Sel.cons (by repeat (first | exact .here | apply Take.there)))) s))
end Go.Proofs.Ytfnoaohbjlnkgaa
