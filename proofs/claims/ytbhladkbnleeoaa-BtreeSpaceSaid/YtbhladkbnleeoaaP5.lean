/-
  Parts of the proof: H4, H5, H6, H7, H8, K18, H9, H10, F0, F1, F2, H11, H13.
-/
import Derived.Test.YtbhladkbnleeoaaP4
import Derived.Test.YtbhladkbnleeoaaRows
import Derived.WalkKit
import Derived.ProofKit
import Derived.OpenShut
import Derived.Deep.Slices
import Derived.Carry
namespace Go.Proofs.Ytbhladkbnleeoaa
set_option maxRecDepth 100000
attribute [local irreducible] J JL At Rd Ef DNew DCar DRun Then RetQ LoopQ

theorem put_gen (t d m : Nat) (W : Ws) (key val : Bs) (P : PI 3 W.1 W.2.1 W.2.2.1 W.2.2.2) (hR : RHd 3 W.1 W.2.1 W.2.2.1) (hs : StOk ⟨W.1, W.2.1, [], []⟩) : Fn Try.prog 27 [.pointer (some ⟨t, 0, none⟩), str key, str val] [pts t (.cells [.pointer (some ⟨d, 0, none⟩), .pointer (some ⟨m, 0, none⟩), .int .i64 (rootI W.2.2.1)].toArray 77), dk d W.1, bm m 3 W.2.1] (X := Unit) (fun _ => True) (fun _ => .int .i64 (if putC key val = 0 then (putA key val W).2.1 else putC key val)) (fun _ => [pts t (.cells [.pointer (some ⟨d, 0, none⟩), .pointer (some ⟨m, 0, none⟩), .int .i64 (rootI (putW key val W).2.2.1)].toArray 77), dk d (putW key val W).1, bm m 3 (putW key val W).2.1]) := by
  by_cases hk0 : key = []
  · subst hk0
    have e : putW [] val W = W := if_neg (show ¬ ((4 : Int) = 0) by decide)
    rw [e, if_neg (show ¬ (putC [] val = 0) from show ¬ ((4 : Int) = 0) by decide)]
    have h1 := (put_short t d m (rootI W.2.2.1) val).frame [dk d W.1, bm m 3 W.2.1]
    exact h1
  · by_cases hl : 112 < key.length ∨ 360 < val.length
    · have hc := putC_long hk0 hl
      have e : putW key val W = W := if_neg (by rw [hc]; decide)
      rw [e, if_neg (by rw [hc]; decide), hc]
      have h1 := (put_long t d m (rootI W.2.2.1) key val hk0 hl).frame [dk d W.1, bm m 3 W.2.1]
      exact h1
    · have hc := putC_ok hk0 hl
      have e : putW key val W = apW W (putA key val W) := if_pos hc
      rw [e, if_pos hc]
      obtain ⟨a1, a2, a3, _⟩ := apply_pi (by decide) (put_item hk0 hl) (Nat.le_refl 1) (fun e he => by obtain rfl := List.mem_singleton.1 he; rfl) P hR hs (A := putA key val W) rfl
      have hk1 := List.length_pos_iff.2 hk0
      exact put_any t d m 3 (by decide) key val hk1 (by omega) (by omega) W.1 W.2.1 W.2.2.1 hR hs a1 a2 a3
theorem put_w (t d m n N k j : Nat) (W : Ws) (key val : Bs) (h : WI n N k j W) (hN : N ≤ 500000) (hk : k ≤ 1000) (hn : 3 * hgtR W.2.2.1 + 1 + 2 * k + 2 * j ≤ n) : Fn Try.prog 27 [.pointer (some ⟨t, 0, none⟩), str key, str val] [pts t (.cells [.pointer (some ⟨d, 0, none⟩), .pointer (some ⟨m, 0, none⟩), .int .i64 (rootI W.2.2.1)].toArray 77), dk d W.1, bm m 3 W.2.1] (X := Unit) (fun _ => True) (fun _ => .int .i64 (putC key val)) (fun _ => [pts t (.cells [.pointer (some ⟨d, 0, none⟩), .pointer (some ⟨m, 0, none⟩), .int .i64 (rootI (putW key val W).2.2.1)].toArray 77), dk d (putW key val W).1, bm m 3 (putW key val W).2.1]) := by
  refine (put_gen t d m W key val h.pi (h.pi.rhd (by have := h.rows; omega)) (h.stok hN)).cv (fun _ s => s) (fun _ _ => ?_) fun _ _ _ s => s
  by_cases hc : putC key val = 0
  · rw [if_pos hc, hc, (put_wi h hN hk hn).2.2 hc]
  · rw [if_neg hc]
def delQ (key : Bs) (W : Ws) : Bool := decide ((getR key W.1 W.2.2.1).1 = 0) && (getR key W.1 W.2.2.1).2.isSome
theorem del_gen (t d m : Nat) (W : Ws) (key : Bs) (P : PI 3 W.1 W.2.1 W.2.2.1 W.2.2.2) (hR : RHd 3 W.1 W.2.1 W.2.2.1) (hs : StOk ⟨W.1, W.2.1, [], []⟩) : Fn Try.prog 30 [.pointer (some ⟨t, 0, none⟩), str key] [pts t (.cells [.pointer (some ⟨d, 0, none⟩), .pointer (some ⟨m, 0, none⟩), .int .i64 (rootI W.2.2.1)].toArray 77), dk d W.1, bm m 3 W.2.1] (X := Unit) (fun _ => True) (fun _ => .tuple #[.bool (if delQ key W then decide ((delA key W).2.1 = 0) else false), .int .i64 (if delQ key W then (delA key W).2.1 else (getR key W.1 W.2.2.1).1)]) (fun _ => [pts t (.cells [.pointer (some ⟨d, 0, none⟩), .pointer (some ⟨m, 0, none⟩), .int .i64 (rootI (if delQ key W = true then apW W (delA key W) else W).2.2.1)].toArray 77), dk d (if delQ key W = true then apW W (delA key W) else W).1, bm m 3 (if delQ key W = true then apW W (delA key W) else W).2.1]) := by
  cases hq : delQ key W with
  | false =>
    have h1 := (delete_no t d m key W.1 W.2.2.1 hR.hr (by
      unfold delQ at hq
      by_cases h0 : (getR key W.1 W.2.2.1).1 = 0
      · right
        rw [h0] at hq
        cases hg : (getR key W.1 W.2.2.1).2 with
        | none => rfl
        | some v => rw [hg] at hq; simp at hq
      · exact .inl h0)).frame [bm m 3 W.2.1]
    exact h1
  | true =>
    unfold delQ at hq
    obtain ⟨q1, q2⟩ := Bool.and_eq_true_iff.1 hq
    obtain ⟨v, hv⟩ := Option.isSome_iff_exists.1 q2
    obtain ⟨a1, a2, a3, _⟩ := apply_pi (mk := []) (key := key) (by decide) (by intro e he; cases he) (Nat.zero_le 1) (by intro e he; cases he) P hR hs (A := delA key W) rfl
    exact delete_yes t d m 3 (by decide) key W.1 W.2.1 W.2.2.1 hR hs a1 a2 a3 v (Prod.ext (of_decide_eq_true q1) hv)
theorem del_w (t d m n N k j : Nat) (W : Ws) (key : Bs) (h : WI n N k j W) (hN : N ≤ 500000) (hk : k ≤ 1000) (hn : 3 * hgtR W.2.2.1 + 1 + 2 * k + 2 * j ≤ n) : Fn Try.prog 30 [.pointer (some ⟨t, 0, none⟩), str key] [pts t (.cells [.pointer (some ⟨d, 0, none⟩), .pointer (some ⟨m, 0, none⟩), .int .i64 (rootI W.2.2.1)].toArray 77), dk d W.1, bm m 3 W.2.1] (X := Unit) (fun _ => True) (fun _ => .tuple #[.bool (hasF (entR W.2.2.1) key), .int .i64 0]) (fun _ => [pts t (.cells [.pointer (some ⟨d, 0, none⟩), .pointer (some ⟨m, 0, none⟩), .int .i64 (rootI (delW key W).2.2.1)].toArray 77), dk d (delW key W).1, bm m 3 (delW key W).2.1]) := by
  have hg := getR_law (key := key) h.pi h.live.2.1
  have hq : delQ key W = hasF (entR W.2.2.1) key := by unfold delQ; rw [hg]; exact lookL_has _ _
  have e : (if delQ key W = true then apW W (delA key W) else W) = delW key W := by unfold delW; rw [hq]
  refine (del_gen t d m W key h.pi (h.pi.rhd (by have := h.rows; omega)) (h.stok hN)).cv (fun _ s => s) (fun _ _ => ?_) fun _ _ _ s => by rw [e] at s; exact s
  rw [hq]
  cases hh : hasF (entR W.2.2.1) key with
  | false => rw [if_neg (by decide), if_neg (by decide), hg]
  | true => rw [if_pos rfl, if_pos rfl, (del_wi h hN hk hn).2.2 hh]; rfl
theorem rput_all (a : Option Addr) (cap : Nat) (l : List It) (key val : Bs) (hc : l.length ≤ cap) (hl : l.length ≤ 100000) : Fn Try.prog 24 [.slice a l.length cap, str key, str val] [rowR a 2 (l.map itc)] (X := Option Addr × Nat) (fun x => (putL key val l).length ≤ x.2) (fun x => .tuple #[.slice x.1 (putL key val l).length x.2, .int .i64 (putC key val)]) (fun x => [rowR x.1 2 ((putL key val l).map itc), rowR a 2 (l.map itc)]) := by
  by_cases hk0 : key = []
  · subst hk0
    have e : putL [] val l = l := if_neg (show ¬ ((4 : Int) = 0) by decide)
    rw [e]
    exact ((rput_short a cap l val).frame [rowR a 2 (l.map itc)]).cvx (fun _ => (a, cap)) (fun _ _ => hc) (fun _ s => s) (fun _ _ => rfl) fun _ _ _ s => rowR_dup s
  · by_cases hlq : 112 < key.length ∨ 360 < val.length
    · have hp := putC_long hk0 hlq
      have e : putL key val l = l := if_neg (by rw [hp]; decide)
      rw [e, hp]
      exact ((rput_long a cap l key val hk0 hlq).frame [rowR a 2 (l.map itc)]).cvx (fun _ => (a, cap)) (fun _ _ => hc) (fun _ s => s) (fun _ _ => rfl) fun _ _ _ s => rowR_dup s
    · have hp := putC_ok hk0 hlq
      have e : putL key val l = edS [(key, val)] key l := if_pos hp
      rw [e, hp]
      exact rput_any a cap l key val hc hl hk0 (by omega) (by omega)

set_option maxHeartbeats 400000 in
theorem all_any (t d m f : Nat) (D : Dk) (sM : Bs) (rt : Rt) (hO : okR rt) (hH : hdR f D sM rt) (hR : RHd f D sM rt) (hd : D.down = false) (hle : (entR rt).length ≤ 1000) (a : Option Addr) (cap : Nat) (rows : List It) (hrl : rows.length ≤ 1000000) :
    Fn Try.prog 12 [.pointer (some ⟨t, 0, none⟩), .slice a rows.length cap] [pts t (.cells [.pointer (some ⟨d, 0, none⟩), .pointer (some ⟨m, 0, none⟩), .int .i64 (rootI rt)].toArray 77), dk d D, rowR a 2 (rows.map itc)] (X := Unit) (fun _ => True) (fun _ => .bool (decide (entR rt = rows))) (fun _ => [pts t (.cells [.pointer (some ⟨d, 0, none⟩), .pointer (some ⟨m, 0, none⟩), .int .i64 (rootI rt)].toArray 77), dk d D, rowR a 2 (rows.map itc)]) := by
 refine Fn.mk' (n := 36) (l := [(0, .pointer (some ⟨t, 0, none⟩)), (1, .slice a rows.length cap)]) (fn := Try.f12) Try.func12 (by kernel_rfl) rfl rfl (by simp) rfl ?_
 intro h0 w0
 refine J.sr <| JL.as Ev.c <| JL.n4 <| JL.mv (t1 rfl) <| JL.ef (Ef.call (.cons (t0 rfl) (.cons Ev.c (.cons Ev.c (.cons Ev.c .nil)))) (range_any t d m D f sM rt [] [] 1000 hd hR (by omega)) (by repeat constructor) ?_)
 rintro ⟨ra, rc⟩ -
 rw [rangeR_every hO hle]
 simp only [cA, nA]
 refine JL.mv (t0 rfl) <| JL.e (t0 rfl) <| JL.e (t1 rfl) <| JL.as (t1 rfl) <| JL.as (t1 rfl) <| JL.n4 <| JL.mv (t8 rfl) <| JL.ef (Ef.call (.cons (t0 rfl) .nil) (len_any t d m D rt hR.hr (walkRok_len hH hd (by omega))) (by repeat constructor) ?_)
 rintro - -
 rw [walkR_len hH hd]
 dsimp only
 rw [if_pos rfl]
 simp only [cA, nA]
 refine JL.mv (t0 rfl) <| JL.e (t0 rfl) <| JL.e (t1 rfl) <| JL.as (t1 rfl) <| JL.as (t1 rfl) <| JL.ns <| J.demote (a := ra) (cap := rc) (xs := (entR rt).map itc) (by repeat constructor) ?_
 refine J.region <| JL.mv (t7 rfl) <| JL.rd (Rd.eql (t0 rfl) Ev.c) <| JL.mv (t0 rfl) <| JL.rdG rfl (EvB (t0 rfl) rfl) rfl (Rd.move (t3 rfl)) <| JL.rdG rfl (EvB (t1 rfl) rfl) rfl (Rd.eql (t0 rfl) Ev.c) <| JL.rd (Rd.pickT (EvB (t2 rfl) rfl) (t0 rfl)) <| JL.mv (t0 rfl) <| JL.rdG rfl (EvB (t0 rfl) rfl) rfl (Rd.move (t8 rfl)) <| JL.rdG rfl (EvB (t1 rfl) rfl) rfl (Rd.move (t24 rfl)) <| JL.rdG rfl (EvB (t2 rfl) rfl) rfl (Rd.len Try.runUnderlying29 (t0 rfl)) <| JL.rdG rfl (EvB (t3 rfl) rfl) rfl (Rd.eql (t2 rfl) (t0 rfl)) <| JL.rd (Rd.pickT (EvB (t4 rfl) rfl) (t0 rfl)) <| JL.mv (t0 rfl) <| JL.caseD (t0 rfl) ?_ ?_
 intro hb1p hb1
 refine JL.rdG rfl (EvB (t0 rfl) hb1) rfl (Rd.move (t21 rfl)) <| JL.rdG rfl (EvB (t1 rfl) hb1) rfl (Rd.move (t30 rfl)) <| JL.efG rfl (EvB (t2 rfl) hb1) rfl (Ef.call (.cons (t1 rfl) (.cons (t0 rfl) .nil)) (same_any ra a rc cap (entR rt) rows (by omega) hrl) (by repeat constructor) ?_)
 rintro - -
 simp only [cA, nA]
 exact JL.rd (Rd.pickT (EvB (t3 rfl) hb1) (t0 rfl)) <| JL.as (t0 rfl) <| JL.nr <| At.r (()) (trivial) (ResV.one rfl (t0 rfl)) (by first | rfl | (refine congrArg Value.bool (decide_eq_false ?_).symm; intro e; have := congrArg List.length e; omega))
 intro hb1p hb1
 exact JL.skG rfl (EvB (t0 rfl) hb1) rfl <| JL.skG rfl (EvB (t1 rfl) hb1) rfl <| JL.skG rfl (EvB (t2 rfl) hb1) rfl <| JL.rd (Rd.pickF (EvB (t3 rfl) hb1) Ev.c) <| JL.as (t0 rfl) <| JL.nr <| At.r (()) (trivial) (ResV.one rfl (t0 rfl)) (by first | rfl | (refine congrArg Value.bool (decide_eq_false ?_).symm; intro e; have := congrArg List.length e; omega))

set_option maxHeartbeats 400000 in
theorem fresh_any (n : Nat) (h1 : 1 ≤ n) (h2 : n ≤ 300) :
    Fn Try.prog 21 [.int .i64 (n : Int)] [] (X := Nat × Nat × Nat) (fun _ => True) (fun x => .tuple #[.agg [.pointer (some ⟨x.1, 0, none⟩), .pointer (some ⟨x.2.1, 0, none⟩), .pointer (some ⟨x.2.2, 0, none⟩)].toArray, .bool true]) (fun x => [pts x.2.2 (.cells [.pointer (some ⟨x.1, 0, none⟩), .pointer (some ⟨x.2.1, 0, none⟩), .int .i64 (-1)].toArray 77), dk x.1 (newW n).1, bm x.2.1 3 (newW n).2.1]) := by
 refine Fn.mk' (n := 51) (l := [(0, .int .i64 (n : Int))]) (fn := Try.f21) Try.func21 (by kernel_rfl) rfl rfl (by simp) rfl ?_
 intro h0 w0
 refine J.sr <| JL.ef (Ef.alloc Try.zeroValue28 rfl ?_)
 intro b1
 refine JL.as Ev.c <| JL.n4 <| JL.ef (Ef.call (.cons Ev.c .nil) (new_ok 303 (by decide) (by decide)) (by repeat constructor) ?_)
 rintro d -
 simp only [cA, nA]
 refine JL.mv (t0 rfl) <| JL.e (t0 rfl) <| JL.e (t1 rfl) <| JL.as (t1 rfl) <| JL.as (t1 rfl) <| JL.n4 <| JL.mv (t8 rfl) <| JL.ef (Ef.call (.cons Ev.c (.cons (t0 rfl) .nil)) (mnew_any 3 n (by decide) h1 (by omega)) (by repeat constructor) ?_)
 rintro m -
 simp only [cA, nA]
 refine JL.mv (t0 rfl) <| JL.e (t0 rfl) <| JL.e (t1 rfl) <| JL.as (t1 rfl) <| JL.as (t1 rfl) <| JL.n4 <| JL.mv (t8 rfl) <| JL.mv (t2 rfl) <| JL.ef (Ef.call (.cons (t1 rfl) (.cons (t0 rfl) .nil)) (tnew_any d m) (by repeat constructor) ?_)
 rintro t -
 simp only [cA, nA]
 refine JL.mv (t0 rfl) <| JL.e (t0 rfl) <| JL.e (t1 rfl) <| JL.as (t1 rfl) <| JL.as (t1 rfl) <| JL.n4 <| JL.mv (t16 rfl) <| JL.mv (t10 rfl) <| JL.mv (t3 rfl) ?_
 refine JL.rd (Rd.buildS (.cons (t2 rfl) (.cons (t1 rfl) (.cons (t0 rfl) .nil))) bld_28 (by repeat (first | exact FillN.nil | apply FillN.one rfl rfl (by repeat constructor)))) ?_
 refine JL.mv (t19 rfl) <| JL.rd (Rd.eql (t0 rfl) Ev.c) <| JL.mv (t0 rfl) <| JL.rdG rfl (EvB (t0 rfl) rfl) rfl (Rd.move (t15 rfl)) <| JL.rdG rfl (EvB (t1 rfl) rfl) rfl (Rd.eql (t0 rfl) Ev.c) <| JL.rd (Rd.pickT (EvB (t2 rfl) rfl) (t0 rfl)) <| JL.mv (t0 rfl) <| JL.rdG rfl (EvB (t0 rfl) rfl) rfl (Rd.move (t11 rfl)) <| JL.rdG rfl (EvB (t1 rfl) rfl) rfl (Rd.eql (t0 rfl) Ev.c) <| JL.rd (Rd.pickT (EvB (t2 rfl) rfl) (t0 rfl)) <| JL.mv (t0 rfl) <| JL.rdG rfl (EvB (t0 rfl) rfl) rfl (Rd.move (t31 rfl)) <| JL.rdG rfl (EvB (t1 rfl) rfl) rfl (Rd.neqNil (t0 rfl) Try.runUnderlying24) <| JL.rd (Rd.pickT (EvB (t2 rfl) rfl) (t0 rfl)) <| JL.mv (t0 rfl) <| JL.rdG rfl (EvB (t0 rfl) rfl) rfl (Rd.move (t28 rfl)) <| JL.rdG rfl (EvB (t1 rfl) rfl) rfl (Rd.neqNil (t0 rfl) Try.runUnderlying25) <| JL.rd (Rd.pickT (EvB (t2 rfl) rfl) (t0 rfl)) <| JL.live (K := [(46, _), (28, _), (8, _), (3, _), (2, _)]) ⟨lk0, (lk18 rfl), (lk23 rfl), (lk43 rfl), (lk44 rfl), trivial⟩ ?_
 intro ρ2
 refine JL.mv (t0 rfl) <| JL.rdG rfl (EvB (t0 rfl) rfl) rfl (Rd.move (t3 rfl)) <| JL.rdG rfl (EvB (t1 rfl) rfl) rfl (Rd.neqNil (t0 rfl) Try.runUnderlying26) <| JL.rd (Rd.pickT (EvB (t2 rfl) rfl) (t0 rfl)) <| JL.ef0 (Ef.stB Try.sizeOf28 (t8 rfl) (t5 rfl) (by repeat constructor) (by repeat constructor) (by first | rfl | assumption | simp_all) (by first | rfl | assumption | simp_all) (by first | exact bv_one _ | exact cons_one rfl (bv_one _) | (simp [Value.oneCell']; done) | (simp [Value.oneCell', str]; done)) (by decide) ?_)
 exact JL.as (t0 rfl) <| JL.nr <| At.r ((d, m, t)) (trivial) (ResV.many (rs := [.cell 2 28, .tmp 3]) rfl (.agg Try.isAgg28 Try.sizeOf28 (t9 rfl) (by repeat constructor) (by first | rfl | assumption | simp_all) (.tmp (t0 rfl) .nil)) (by simp)) rfl
set_option maxHeartbeats 2000000 in
theorem do_any (t d m N k j : Nat) (W : Ws) (hW : WI 300 N k j W) (hk : k ≤ 80) (hj : j ≤ 40) (hN : N ≤ 400000) (a : Option Addr) (cap : Nat) (hc : (entR W.2.2.1).length ≤ cap) (o : OpR) (hok : o.ok) :
    Fn Try.prog 19 [.agg [.pointer (some ⟨d, 0, none⟩), .pointer (some ⟨m, 0, none⟩), .pointer (some ⟨t, 0, none⟩)].toArray, .slice a (entR W.2.2.1).length cap, .agg (opR o).toArray] [pts t (.cells [.pointer (some ⟨d, 0, none⟩), .pointer (some ⟨m, 0, none⟩), .int .i64 (rootI W.2.2.1)].toArray 77), dk d W.1, bm m 3 W.2.1, rowR a 2 ((entR W.2.2.1).map itc)] (X := (Option Addr × Nat) × Ws) (fun x => WI 300 (N + 301) (k + 1) (max j k) x.2 ∧ (entR x.2.2.2.1).length ≤ x.1.2 ∧ (o.kind.toNat % 5 ≠ 4 → x.2.2.2.2 = W.2.2.2)) (fun x => .tuple #[.slice x.1.1 (entR x.2.2.2.1).length x.1.2, .bool true]) (fun x => [pts t (.cells [.pointer (some ⟨d, 0, none⟩), .pointer (some ⟨m, 0, none⟩), .int .i64 (rootI x.2.2.2.1)].toArray 77), dk d x.2.1, bm m 3 x.2.2.1, rowR x.1.1 2 ((entR x.2.2.2.1).map itc)]) := by
 refine Fn.mk' (n := 159) (l := [(0, .agg [.pointer (some ⟨d, 0, none⟩), .pointer (some ⟨m, 0, none⟩), .pointer (some ⟨t, 0, none⟩)].toArray), (1, .slice a (entR W.2.2.1).length cap), (2, .agg (opR o).toArray)]) (fn := Try.f19) Try.func19 (by kernel_rfl) rfl rfl (by simp) rfl ?_
 intro h0 w0
 have hH6 := hgt_le (H := 7) hW.pi.ok hW.rows (by have : (2 : Nat) ^ (7 + 1) = 256 := rfl; omega)
 have hroom : 3 * hgtR W.2.2.1 + 1 + 2 * k + 2 * j ≤ 300 := by omega
 obtain ⟨pw1, pw2, pw3⟩ := put_wi (key := keyF o) (val := valF o) hW (by omega) (by omega) hroom
 obtain ⟨dw1, dw2, dw3⟩ := del_wi (key := keyF o) hW (by omega) (by omega) hroom
 have hrw := hW.rows
 have hg := getR_law (key := keyF o) hW.pi hW.live.2.1
 have hR := hW.pi.rhd (by omega)
 obtain ⟨fl1, _⟩ := flush_live hW.live.1 hW.live.2.1
 have hkl := keyF_le o
 have hops := hW.ops
 have hmono : WI 300 (N + 301) (k + 1) (max j k) W := hW.mono (by omega) (by omega) (by omega)
 refine J.sr <| JL.ef (Ef.box (t0 rfl) rfl ?_)
 intro b1
 refine JL.ef (Ef.box (t3 rfl) rfl ?_)
 intro b2
 refine JL.as Ev.c <| JL.as Ev.c <| JL.n4 <| JL.rd (Rd.ldB Try.isAgg47 Try.sizeOf47 (t2 rfl) (by repeat constructor) (by first | rfl | assumption | simp_all)) ?_
 refine JL.ef (Ef.call (.cons (t0 rfl) .nil) (key_any o hok) (by repeat constructor) ?_)
 rintro - -
 simp only [nA]
 refine JL.as (t0 rfl) <| JL.n5 <| JL.rd ((by first | exact Rd.fld0 fld_47_0 (t5 rfl) | exact Rd.fldz fld_47_0 (t5 rfl))) ?_
 refine JL.rd (Rd.ldN Try.isAgg5 (t0 rfl) (by repeat constructor) (by repeat constructor)) ?_
 refine JL.rd (Rd.rem (t0 rfl) Ev.c (by omega) (by omega)) ?_
 refine JL.nb <| J.sr <| JL.rd (Rd.eql (t0 rfl) Ev.c) <| JL.as (t0 rfl) <| JL.n2 <| J.condD (t0 rfl) ?_ ?_
 intro hc3
 refine J.seq <| J.draw [⟨false, 0, 1⟩, ⟨false, 0, 1⟩, ⟨false, 0, 1⟩, lz, ⟨true, 0, 0⟩, ⟨true, 1, 1⟩, ⟨false, 2, 2⟩] [4, 5] mixed rfl <| DRun.at [] [0, 1, 2, 3] rfl rfl ?_ ?_
 exact .nil
 refine DNew.rd rfl ((by first | exact Rd.fld0 fld_28_2 (t11 rfl) | exact Rd.fld fld_28_2 (t11 rfl))) ?_
 refine DNew.rd rfl (Rd.ldN Try.isAgg26 (t0 rfl) (by repeat constructor) (by repeat constructor)) ?_
 refine DNew.rd rfl (Rd.move (t7 rfl)) <| DNew.rd rfl (Rd.ldB Try.isAgg47 Try.sizeOf47 (t13 rfl) (by repeat constructor) (by first | rfl | assumption | simp_all)) ?_
 refine DNew.nil <| DRun.ef rfl (Ef.call (.cons (t0 rfl) .nil) (value_any o hok) (by repeat constructor) ?_)
 rintro - -
 simp only [nA]
 refine DRun.at [0, 1, 2] [] rfl rfl ?_ ?_
 refine DCar.rd rfl (lk4 rfl) ((by first | exact Rd.fld0 fld_28_2 (t16 rfl) | exact Rd.fld fld_28_2 (t16 rfl))) ?_
 refine DCar.rd rfl (lk3 rfl) (Rd.ldN Try.isAgg26 (t4 rfl) (by repeat constructor) (by repeat constructor)) ?_
 exact DCar.rd rfl (lk2 rfl) (Rd.move (t10 rfl)) <| .nil
 refine DNew.nil <| DRun.ef rfl (Ef.call (.cons (t3 rfl) (.cons (t2 rfl) (.cons (t0 rfl) .nil))) (put_w t d m 300 N k j W (keyF o) (valF o) hW (by omega) (by omega) hroom) (by repeat constructor) ?_)
 rintro - -
 simp only [cA, nA]
 refine DRun.end [] [6] rfl rfl ?_ ?_
 exact .nil
 refine DNew.rd rfl (Rd.assign (t0 rfl)) <| DNew.n2 <| J.sr <| JL.mv (t20 rfl) <| JL.mv (t13 rfl) <| JL.rd (Rd.ldB Try.isAgg47 Try.sizeOf47 (t19 rfl) (by repeat constructor) (by first | rfl | assumption | simp_all)) ?_
 refine JL.ef (Ef.call (.cons (t0 rfl) .nil) (value_any o hok) (by repeat constructor) ?_)
 rintro - -
 simp only [nA]
 refine JL.ef (Ef.call (.cons (t3 rfl) (.cons (t2 rfl) (.cons (t0 rfl) .nil))) (rput_all a cap (entR W.2.2.1) (keyF o) (valF o) hc (by omega)) (by repeat constructor) ?_)
 rintro ⟨ra, rc⟩ hrc
 simp only [cA, nA]
 refine JL.mv (t0 rfl) <| JL.e (t0 rfl) <| JL.e (t1 rfl) <| JL.as (t1 rfl) <| JL.as (t1 rfl) <| JL.ns <| J.live (K := [(11, _), (10, _), (9, _), (7, _), (6, _), (3, _), (1, _)]) ⟨lk0, (lk1 rfl), (lk10 rfl), (lk25 rfl), (lk26 rfl), (lk28 rfl), (lk30 rfl), trivial⟩ ?_
 intro ρ4
 exact J.region <| JL.mv (t1 rfl) <| JL.mv (t3 rfl) <| JL.mv (t2 rfl) <| JL.rd (Rd.eql (t1 rfl) (t0 rfl)) <| JL.as (t3 rfl) <| JL.as (t1 rfl) <| JL.nr <| At.blkR <| At.nextR <| At.ret (((ra, rc), (putW (keyF o) (valF o) W))) (⟨pw1.mono (by omega) (Nat.le_refl _) (by omega), by rw [pw2]; exact hrc, fun _ => by unfold putW; split <;> rfl⟩) (ResV.two rfl (t1 rfl) (t0 rfl)) (by rw [pw2, decide_eq_true rfl]) (fun _ s => by have s1 : Stars [pts t (.cells [.pointer (some ⟨d, 0, none⟩), .pointer (some ⟨m, 0, none⟩), .int .i64 (rootI (putW (keyF o) (valF o) W).2.2.1)].toArray 77), dk d (putW (keyF o) (valF o) W).1, bm m 3 (putW (keyF o) (valF o) W).2.1, rowR ra 2 ((putL (keyF o) (valF o) (entR W.2.2.1)).map itc)] _ := Stars.sel (by repeat constructor) s; rw [← pw2] at s1; exact s1)
 intro hc3
 refine J.sr <| JL.rd (Rd.eql (t2 rfl) Ev.c) <| JL.as (t0 rfl) <| JL.n2 <| J.condD (t0 rfl) ?_ ?_
 intro hc5
 refine J.sr <| JL.rd ((by first | exact Rd.fld0 fld_28_2 (t13 rfl) | exact Rd.fld fld_28_2 (t13 rfl))) ?_
 refine JL.rd (Rd.ldN Try.isAgg26 (t0 rfl) (by repeat constructor) (by repeat constructor)) ?_
 refine JL.mv (t9 rfl) <| JL.ef (Ef.call (.cons (t1 rfl) (.cons (t0 rfl) .nil)) (del_w t d m 300 N k j W (keyF o) hW (by omega) (by omega) hroom) (by repeat constructor) ?_)
 rintro - -
 simp only [cA, nA]
 refine JL.mv (t0 rfl) <| JL.e (t0 rfl) <| JL.e (t1 rfl) <| JL.as (t1 rfl) <| JL.as (t1 rfl) <| JL.n4 <| JL.mv (t24 rfl) <| JL.mv (t17 rfl) <| JL.ef (Ef.call (.cons (t1 rfl) (.cons (t0 rfl) .nil)) (rdel_any a cap (entR W.2.2.1) (keyF o) hc (by omega)) (by repeat constructor) ?_)
 rintro ⟨ra, rc⟩ hrc
 simp only [cA, nA]
 refine JL.mv (t0 rfl) <| JL.e (t0 rfl) <| JL.e (t1 rfl) <| JL.as (t1 rfl) <| JL.as (t1 rfl) <| JL.ns <| J.live (K := [(15, _), (14, _), (13, _), (12, _), (7, _), (6, _), (3, _), (1, _)]) ⟨lk0, (lk1 rfl), (lk8 rfl), (lk9 rfl), (lk27 rfl), (lk28 rfl), (lk30 rfl), (lk32 rfl), trivial⟩ ?_
 intro ρ6
 refine J.region <| JL.mv (t1 rfl) <| JL.mv (t4 rfl) <| JL.mv (t2 rfl) <| JL.rd (Rd.bool2 (t1 rfl) (t0 rfl) Try.runUnderlying4 (by simp)) ?_
 refine JL.mv (t0 rfl) <| JL.rdG rfl (EvB (t0 rfl) (by simp)) rfl (Rd.move (t7 rfl)) ?_
 refine JL.rdG rfl (EvB (t1 rfl) (by simp)) rfl (Rd.eql (t0 rfl) Ev.c) ?_
 refine JL.rd (Rd.pickT (EvB (t2 rfl) (by simp)) (t0 rfl)) ?_
 exact JL.as (t7 rfl) <| JL.as (t1 rfl) <| JL.nr <| At.blkR <| At.nextR <| At.ret (((ra, rc), (delW (keyF o) W))) (⟨dw1.mono (by omega) (Nat.le_refl _) (by omega), by rw [dw2]; exact hrc, fun _ => by unfold delW; split <;> rfl⟩) (ResV.two rfl (t1 rfl) (t0 rfl)) (by rw [dw2]; simp) (fun _ s => by have s1 : Stars [pts t (.cells [.pointer (some ⟨d, 0, none⟩), .pointer (some ⟨m, 0, none⟩), .int .i64 (rootI (delW (keyF o) W).2.2.1)].toArray 77), dk d (delW (keyF o) W).1, bm m 3 (delW (keyF o) W).2.1, rowR ra 2 ((edS [] (keyF o) (entR W.2.2.1)).map itc)] _ := Stars.sel (by repeat constructor) s; rw [← dw2] at s1; exact s1)
 intro hc5
 refine J.sr <| JL.rd (Rd.eql (t4 rfl) Ev.c) <| JL.as (t0 rfl) <| JL.n2 <| J.condD (t0 rfl) ?_ ?_
 intro hc7
 refine J.sr <| JL.rd ((by first | exact Rd.fld0 fld_28_2 (t15 rfl) | exact Rd.fld fld_28_2 (t15 rfl))) ?_
 refine JL.rd (Rd.ldN Try.isAgg26 (t0 rfl) (by repeat constructor) (by repeat constructor)) ?_
 refine JL.mv (t11 rfl) <| JL.ef (Ef.call (.cons (t1 rfl) (.cons (t0 rfl) .nil)) (get_rt t d m (keyF o) W.1 W.2.2.1 hR.hr) (by repeat constructor) ?_)
 rintro - -
 rw [hg]
 simp only [cA, nA]
 refine JL.mv (t0 rfl) <| JL.e (t0 rfl) <| JL.e (t1 rfl) <| JL.e (t2 rfl) <| JL.as (t2 rfl) <| JL.as (t2 rfl) <| JL.as (t2 rfl) <| JL.ns <| J.live (K := [(18, _), (17, _), (16, _), (8, _), (7, _), (6, _), (3, _), (1, _)]) ⟨lk0, (lk1 rfl), (lk2 rfl), (lk20 rfl), (lk23 rfl), (lk24 rfl), (lk26 rfl), (lk28 rfl), trivial⟩ ?_
 intro ρ8
 refine J.region <| JL.mv (t7 rfl) <| JL.mv (t4 rfl) <| JL.ef (Ef.call (.cons (t1 rfl) (.cons (t0 rfl) .nil)) (rfind_any a cap (entR W.2.2.1) (keyF o) (by omega)) (by repeat constructor) ?_)
 rintro - -
 simp only [cA, nA]
 refine JL.mv (t0 rfl) <| JL.e (t0 rfl) <| JL.e (t1 rfl) <| JL.as (t1 rfl) <| JL.as (t1 rfl) <| JL.ns ?_
 rcases Bool.eq_false_or_eq_true (hasF (entR W.2.2.1) (keyF o)) with hh | hh
 have hlk : lookL (entR W.2.2.1) (keyF o) = some ((entR W.2.2.1).getD (findF (entR W.2.2.1) (keyF o)) ([], [])).2 := by unfold lookL; rw [if_pos hh]
 rw [hlk, hh]
 have hxf := itc_at (has_lt2 hh)
 have hflt := has_lt2 hh
 refine J.draw [lz, lz, lz, lz, lz, lz, lz, lz, lz, lz, lz, lz, lz, lz, lz, lz, lz, lz, lz, lz, lz, lz, lz, lz, lz, lz, lz, lz, lz, lz] [] mixed rfl <| DRun.end [] [0, 1, 2, 3, 4, 5, 6, 7, 8, 9, 10, 11, 12, 13, 14, 15, 16, 17, 18, 19, 20, 21, 22, 23, 24, 25, 26, 27, 28, 29] rfl rfl ?_ ?_
 exact .nil
 refine DNew.rd rfl (Rd.move (t15 rfl)) <| DNew.rd rfl (Rd.move (t10 rfl)) <| DNew.rd rfl (Rd.move (t2 rfl)) <| DNew.rd rfl (Rd.bool2 (t1 rfl) (t0 rfl) Try.runUnderlying4 (by simp)) ?_
 refine DNew.rd rfl (Rd.move (t0 rfl)) <| DNew.rdG rfl rfl (EvB (t0 rfl) rfl) rfl (Rd.move (t13 rfl)) <| DNew.rdG rfl rfl (EvB (t1 rfl) rfl) rfl (Rd.eql (t0 rfl) Ev.c) <| DNew.rd rfl (Rd.pickT (EvB (t2 rfl) rfl) (t0 rfl)) <| DNew.rd rfl (Rd.move (t0 rfl)) <| DNew.rdG rfl rfl (EvB (t0 rfl) rfl) rfl (Rd.move (t9 rfl)) <| DNew.rdG rfl rfl (EvB (t1 rfl) rfl) rfl (Rd.not (EvB (t0 rfl) rfl)) <| DNew.rdG rfl rfl (EvB (t2 rfl) rfl) rfl (Rd.move (t0 rfl)) <| DNew.skG rfl rfl (EvB (t0 rfl) rfl) rfl <| DNew.skG rfl rfl (EvB (t1 rfl) rfl) rfl <| DNew.rdG rfl rfl (EvB (t5 rfl) rfl) rfl (Rd.pickF (EvB (t2 rfl) rfl) Ev.c) <| DNew.rdG rfl rfl (EvB (t6 rfl) rfl) rfl (Rd.move (t0 rfl)) <| DNew.rdG rfl rfl (t0 rfl) rfl (Rd.move (t16 rfl)) <| DNew.rdG rfl rfl (t1 rfl) rfl (Rd.move (t0 rfl)) <| DNew.rdG rfl rfl (EvB (t0 rfl) rfl) rfl (Rd.move (t28 rfl)) <| DNew.rdG rfl rfl (EvB (t1 rfl) rfl) rfl (Rd.move (t34 rfl)) <| DNew.rdG rfl rfl (EvB (t2 rfl) rfl) rfl (Rd.move (t21 rfl)) <| DNew.rdG rfl rfl (EvB (t3 rfl) rfl) rfl (Rd.sIdx Try.runUnderlying29 Try.sizeOf108 (t1 rfl) (t0 rfl) (Src.i (by repeat constructor)) (by first | (simp; done) | (simp; omega) | omega | (simp [*]; done) | (simp [*]; omega)) (by omega) (by omega)) ?_
 refine DNew.rdG rfl rfl (EvB (t4 rfl) rfl) rfl (Rd.sFld0 fld_108_1 (t0 rfl) (Src.i (by repeat constructor)) (List.getElem?_eq_some_iff.1 hxf).1) ?_
 refine DNew.rdG rfl rfl (EvB (t5 rfl) rfl) rfl (Rd.sLd Try.isAgg9 (t0 rfl) (Src.i (by repeat constructor)) hxf rfl) ?_
 exact DNew.rdG rfl rfl (EvB (t6 rfl) rfl) rfl (Rd.str_eql (t5 rfl) (t0 rfl)) <| DNew.rdG rfl rfl (t9 rfl) rfl (Rd.pickT (EvB (t7 rfl) rfl) (t0 rfl)) <| DNew.rdG rfl rfl (EvB (t17 rfl) rfl) rfl (Rd.pickF (t10 rfl) (t0 rfl)) <| DNew.rd rfl (Rd.pickT (EvB (t18 rfl) rfl) (t0 rfl)) <| DNew.rd rfl (Rd.assign (t27 rfl)) <| DNew.rd rfl (Rd.assign (t1 rfl)) <| DNew.n2 <| J.ret <| At.blkR <| At.nextR <| At.ret (((a, cap), W)) (⟨hmono, hc, fun _ => rfl⟩) (ResV.two rfl (t1 rfl) (t0 rfl)) (by simp) (fun _ s => by have s1 : Stars [pts t (.cells [.pointer (some ⟨d, 0, none⟩), .pointer (some ⟨m, 0, none⟩), .int .i64 (rootI W.2.2.1)].toArray 77), dk d W.1, bm m 3 W.2.1, rowR a 2 ((entR W.2.2.1).map itc)] _ := Stars.sel (by repeat constructor) s; exact s1)
 have hlk : lookL (entR W.2.2.1) (keyF o) = none := by unfold lookL; rw [hh]; rfl
 rw [hlk, hh]
 refine J.draw [lz, lz, lz, lz, lz, lz, lz, lz, lz, lz, lz, lz, lz, lz, lz, lz, lz, lz, lz, lz, lz, lz, lz, lz, lz, lz, lz, lz, lz, lz] [] mixed rfl <| DRun.end [] [0, 1, 2, 3, 4, 5, 6, 7, 8, 9, 10, 11, 12, 13, 14, 15, 16, 17, 18, 19, 20, 21, 22, 23, 24, 25, 26, 27, 28, 29] rfl rfl ?_ ?_
 exact .nil
 refine DNew.rd rfl (Rd.move (t15 rfl)) <| DNew.rd rfl (Rd.move (t10 rfl)) <| DNew.rd rfl (Rd.move (t2 rfl)) <| DNew.rd rfl (Rd.bool2 (t1 rfl) (t0 rfl) Try.runUnderlying4 (by simp)) ?_
 exact DNew.rd rfl (Rd.move (t0 rfl)) <| DNew.rdG rfl rfl (EvB (t0 rfl) rfl) rfl (Rd.move (t13 rfl)) <| DNew.rdG rfl rfl (EvB (t1 rfl) rfl) rfl (Rd.eql (t0 rfl) Ev.c) <| DNew.rd rfl (Rd.pickT (EvB (t2 rfl) rfl) (t0 rfl)) <| DNew.rd rfl (Rd.move (t0 rfl)) <| DNew.rdG rfl rfl (EvB (t0 rfl) rfl) rfl (Rd.move (t9 rfl)) <| DNew.rdG rfl rfl (EvB (t1 rfl) rfl) rfl (Rd.not (EvB (t0 rfl) rfl)) <| DNew.rdG rfl rfl (EvB (t2 rfl) rfl) rfl (Rd.move (t0 rfl)) <| DNew.rdG rfl rfl (EvB (t0 rfl) rfl) rfl (Rd.move (t22 rfl)) <| DNew.rdG rfl rfl (EvB (t1 rfl) rfl) rfl (Rd.str_eql (t0 rfl) Ev.c) <| DNew.rdG rfl rfl (EvB (t5 rfl) rfl) rfl (Rd.pickT (EvB (t2 rfl) rfl) (t0 rfl)) <| DNew.rdG rfl rfl (EvB (t6 rfl) rfl) rfl (Rd.move (t0 rfl)) <| DNew.skG rfl rfl (EvB (t0 rfl) (decide_eq_true rfl)) rfl <| DNew.skG rfl rfl (EvB (t1 rfl) (decide_eq_true rfl)) rfl <| DNew.skU rfl rfl (t0 rfl) <| DNew.skU rfl rfl (t1 rfl) <| DNew.skU rfl rfl (t2 rfl) <| DNew.skU rfl rfl (t3 rfl) <| DNew.skU rfl rfl (t4 rfl) <| DNew.skU rfl rfl (t5 rfl) <| DNew.skU rfl rfl (t6 rfl) <| DNew.skG rfl rfl (EvB (t9 rfl) (decide_eq_true rfl)) rfl <| DNew.rdG rfl rfl (EvB (t17 rfl) rfl) rfl (Rd.pickT (EvB (t10 rfl) (decide_eq_true rfl)) Ev.c) <| DNew.rd rfl (Rd.pickT (EvB (t18 rfl) rfl) (t0 rfl)) <| DNew.rd rfl (Rd.assign (t27 rfl)) <| DNew.rd rfl (Rd.assign (t1 rfl)) <| DNew.n2 <| J.ret <| At.blkR <| At.nextR <| At.ret (((a, cap), W)) (⟨hmono, hc, fun _ => rfl⟩) (ResV.two rfl (t1 rfl) (t0 rfl)) (by simp) (fun _ s => by have s1 : Stars [pts t (.cells [.pointer (some ⟨d, 0, none⟩), .pointer (some ⟨m, 0, none⟩), .int .i64 (rootI W.2.2.1)].toArray 77), dk d W.1, bm m 3 W.2.1, rowR a 2 ((entR W.2.2.1).map itc)] _ := Stars.sel (by repeat constructor) s; exact s1)
 intro hc7
 refine J.sr <| JL.rd (Rd.eql (t6 rfl) Ev.c) <| JL.as (t0 rfl) <| JL.n2 <| J.condD (t0 rfl) ?_ ?_
 intro hc9
 refine J.sr <| JL.rd ((by first | exact Rd.fld0 fld_47_5 (t16 rfl) | exact Rd.fld fld_47_5 (t16 rfl))) ?_
 refine JL.rd (Rd.ldN Try.isAgg9 (t0 rfl) (by repeat constructor) (by repeat constructor)) ?_
 refine JL.rd ((by first | exact Rd.fld0 fld_47_5 (t18 rfl) | exact Rd.fld fld_47_5 (t18 rfl))) ?_
 refine JL.rd (Rd.ldN Try.isAgg9 (t0 rfl) (by repeat constructor) (by repeat constructor)) ?_
 refine JL.rd (Rd.lenStr Try.runUnderlying9 (t0 rfl)) <| JL.rd (Rd.min2 (t0 rfl) Ev.c) ?_
 rw [show min (o.to.length : Int) 120 = ((min o.to.length 120 : Nat) : Int) by omega]
 refine JL.rd (Rd.strTo Try.runUnderlying9 (t4 rfl) (t0 rfl) (by first | (simp; done) | (simp; omega) | omega | (simp [*]; done) | (simp [*]; omega)) (by first | (simp; done) | (simp; omega) | omega | (simp [*]; done) | (simp [*]; omega))) ?_
 rw [Int.toNat_natCast, show o.to.take (min o.to.length 120) = o.to.take 120 by rw [List.take_eq_take_iff]; omega]
 refine JL.as (t0 rfl) <| JL.ns <| J.live (K := [(21, _), (8, _), (7, _), (6, _), (5, _), (3, _), (1, _)]) ⟨lk0, (lk19 rfl), (lk22 rfl), (lk23 rfl), (lk24 rfl), (lk25 rfl), (lk27 rfl), trivial⟩ ?_
 intro ρ10
 refine J.region <| JL.rd ((by first | exact Rd.fld0 fld_28_2 (t5 rfl) | exact Rd.fld fld_28_2 (t5 rfl))) ?_
 refine JL.rd (Rd.ldN Try.isAgg26 (t0 rfl) (by repeat constructor) (by repeat constructor)) ?_
 refine JL.mv (t3 rfl) <| JL.mv (t3 rfl) <| JL.rd ((by first | exact Rd.fld0 fld_47_6 (t8 rfl) | exact Rd.fld fld_47_6 (t8 rfl))) ?_
 refine JL.rd (Rd.ldN Try.isAgg3 (t0 rfl) (by repeat constructor) (by repeat constructor)) ?_
 refine JL.ef (Ef.call (.cons (t4 rfl) (.cons (t3 rfl) (.cons (t2 rfl) (.cons (t0 rfl) .nil)))) (range_any t d m W.1 3 W.2.1 W.2.2.1 (keyF o) (o.to.take 120) o.most hW.live.2.1 hR (by omega)) (by repeat constructor) ?_)
 rintro ⟨ra, rc⟩ -
 rw [rangeR_law hW.pi.ok]
 have hcl := colL_le (fr := keyF o) (to := (o.to.take 120)) (most := o.most.toNat) (entR W.2.2.1) []
 rw [List.length_nil] at hcl
 simp only [cA, nA]
 refine JL.mv (t0 rfl) <| JL.e (t0 rfl) <| JL.e (t1 rfl) <| JL.as (t1 rfl) <| JL.as (t1 rfl) <| JL.ns <| J.demote (a := ra) (cap := rc) (xs := (colL (keyF o) (o.to.take 120) o.most.toNat (entR W.2.2.1) []).map itc) (by repeat constructor) ?_
 refine J.region <| JL.mv (t18 rfl) <| JL.mv (t1 rfl) <| JL.rd (Rd.eql (t0 rfl) Ev.c) <| JL.mv (t0 rfl) <| JL.rdG rfl (EvB (t0 rfl) rfl) rfl (Rd.move (t5 rfl)) <| JL.rdG rfl (EvB (t1 rfl) rfl) rfl (Rd.move (t23 rfl)) <| JL.rdG rfl (EvB (t2 rfl) rfl) rfl (Rd.move (t19 rfl)) <| JL.rdG rfl (EvB (t3 rfl) rfl) rfl (Rd.move (t19 rfl)) <| JL.rdG rfl (EvB (t4 rfl) rfl) rfl ((by first | exact Rd.fld0 fld_47_6 (t24 rfl) | exact Rd.fld fld_47_6 (t24 rfl))) ?_
 refine JL.rdG rfl (EvB (t5 rfl) rfl) rfl (Rd.ldN Try.isAgg3 (t0 rfl) (by repeat constructor) (by repeat constructor)) ?_
 refine JL.efG rfl (EvB (t6 rfl) rfl) rfl (Ef.call (.cons (t4 rfl) (.cons (t3 rfl) (.cons (t2 rfl) (.cons (t0 rfl) .nil)))) (rrange_any a cap (entR W.2.2.1) (keyF o) (o.to.take 120) o.most (by omega)) (by repeat constructor) ?_)
 rintro ⟨rb, rd⟩ hrd
 simp only [cA, nA]
 refine JL.efG rfl (EvB (t7 rfl) rfl) rfl (Ef.call (.cons (t6 rfl) (.cons (t0 rfl) .nil)) (same_any ra rb rc rd (colL (keyF o) (o.to.take 120) o.most.toNat (entR W.2.2.1) []) (colL (keyF o) (o.to.take 120) o.most.toNat (entR W.2.2.1) []) (by omega) (by omega)) (by repeat constructor) ?_)
 rintro - -
 simp only [cA, nA]
 exact JL.rd (Rd.pickT (EvB (t8 rfl) rfl) (t0 rfl)) <| JL.as (t12 rfl) <| JL.as (t1 rfl) <| JL.nr <| At.blkR <| At.nextR <| At.ret (((a, cap), W)) (⟨hmono, hc, fun _ => rfl⟩) (ResV.two rfl (t1 rfl) (t0 rfl)) (by simp) (fun _ s => by have s1 : Stars [pts t (.cells [.pointer (some ⟨d, 0, none⟩), .pointer (some ⟨m, 0, none⟩), .int .i64 (rootI W.2.2.1)].toArray 77), dk d W.1, bm m 3 W.2.1, rowR a 2 ((entR W.2.2.1).map itc)] _ := Stars.sel (by repeat constructor) s; exact s1)
 intro hc9
 refine J.skip <| At.blkN <| At.next <| J.sr <| JL.mv (t19 rfl) <| JL.rd ((by first | exact Rd.fld0 fld_28_0 (t18 rfl) | exact Rd.fldz fld_28_0 (t18 rfl))) ?_
 refine JL.rd (Rd.ldN Try.isAgg24 (t0 rfl) (by repeat constructor) (by repeat constructor)) ?_
 refine JL.ef (Ef.call (.cons (t0 rfl) .nil) (flush_any d W.1 (by omega)) (by repeat constructor) ?_)
 rintro - -
 rw [fl1]
 simp only [cA, nA]
 refine JL.rd (Rd.eql (t0 rfl) Ev.c) <| JL.mv (t0 rfl) <| JL.rdG rfl (EvB (t0 rfl) rfl) rfl ((by first | exact Rd.fld0 fld_28_1 (t23 rfl) | exact Rd.fld fld_28_1 (t23 rfl))) ?_
 refine JL.rdG rfl (EvB (t1 rfl) rfl) rfl (Rd.ldN Try.isAgg25 (t0 rfl) (by repeat constructor) (by repeat constructor)) ?_
 refine JL.efG rfl (EvB (t2 rfl) rfl) rfl (Ef.call (.cons (t0 rfl) .nil) (commit_any m 3 W.2.1 hW.pi.le4) (by repeat constructor) ?_)
 rintro - -
 simp only [cA, nA]
 exact JL.rdG rfl (EvB (t3 rfl) rfl) rfl (Rd.eql (t0 rfl) Ev.c) <| JL.rd (Rd.pickT (EvB (t4 rfl) rfl) (t0 rfl)) <| JL.as (t10 rfl) <| JL.as (t1 rfl) <| JL.nr <| At.ret (((a, cap), comW W)) (⟨(com_wi hW).mono (by omega) (by omega) (by omega), hc, fun h => absurd h (by omega)⟩) (ResV.two rfl (t1 rfl) (t0 rfl)) rfl (fun _ s => by have s1 : Stars [pts t (.cells [.pointer (some ⟨d, 0, none⟩), .pointer (some ⟨m, 0, none⟩), .int .i64 (rootI (comW W).2.2.1)].toArray 77), dk d (comW W).1, bm m 3 (comW W).2.1, rowR a 2 ((entR W.2.2.1).map itc)] _ := Stars.sel (by repeat constructor) s; exact s1)
set_option maxHeartbeats 1000000 in
theorem play_any (a : Option Addr) (cap : Nat) (l : List OpR) (_ : l.length ≤ 9223372036854775807) (hok : ∀ o ∈ l, o.ok) :
    Fn Try.prog 10 [.slice a l.length cap] [rowR a 7 (l.map opR)] (X := (Nat × Nat × Nat) × (Option Addr × Nat) × Ws) (fun x => WI 300 12040 40 40 x.2.2 ∧ (entR x.2.2.2.2.1).length ≤ x.2.1.2) (fun x => .tuple #[.agg [.pointer (some ⟨x.1.1, 0, none⟩), .pointer (some ⟨x.1.2.1, 0, none⟩), .pointer (some ⟨x.1.2.2, 0, none⟩)].toArray, .slice x.2.1.1 (entR x.2.2.2.2.1).length x.2.1.2, .bool true]) (fun x => [pts x.1.2.2 (.cells [.pointer (some ⟨x.1.1, 0, none⟩), .pointer (some ⟨x.1.2.1, 0, none⟩), .int .i64 (rootI x.2.2.2.2.1)].toArray 77), dk x.1.1 x.2.2.1, bm x.1.2.1 3 x.2.2.2.1, rowR x.2.1.1 2 ((entR x.2.2.2.2.1).map itc), rowR a 7 (l.map opR)]) := by
 refine Fn.mk' (n := 36) (l := [(0, .slice a l.length cap)]) (fn := Try.f10) Try.func10 (by kernel_rfl) rfl rfl (by simp) rfl ?_
 intro h0 w0
 refine J.sr <| JL.ef (Ef.alloc Try.zeroValue28 rfl ?_)
 intro b1
 refine JL.as Ev.c <| JL.as Ev.c <| JL.n4 <| JL.ef (Ef.call (.cons Ev.c .nil) (fresh_any 300 (by decide) (by decide)) (by repeat constructor) ?_)
 rintro ⟨d, m, t⟩ -
 simp only [cA, nA]
 refine JL.mv (t0 rfl) <| JL.e (t0 rfl) <| JL.e (t1 rfl) ?_
 refine JL.ef0 (Ef.stB Try.sizeOf28 (t6 rfl) (t1 rfl) (by repeat constructor) (by repeat constructor) (by first | rfl | assumption | simp_all) (by first | rfl | assumption | simp_all) (by first | exact bv_one _ | exact cons_one rfl (bv_one _) | (simp [Value.oneCell']; done) | (simp [Value.oneCell', str]; done)) (by decide) ?_)
 refine JL.as (t0 rfl) <| JL.n5 <| JL.as Ev.c <| JL.nb <| J.loop (X := Nat × (Option Addr × Nat) × Ws) (fun (x : Nat × (Option Addr × Nat) × Ws) => [(5, .int .i64 (x.1 : Int)), (3, .slice x.2.1.1 (entR x.2.2.2.2.1).length x.2.1.2), (4, .bool true)]) (K := [(2, _), (0, _)]) (fun x => [pts b1 (.cells [.pointer (some ⟨d, 0, none⟩), .pointer (some ⟨m, 0, none⟩), .pointer (some ⟨t, 0, none⟩)].toArray 28), pts t (.cells [.pointer (some ⟨d, 0, none⟩), .pointer (some ⟨m, 0, none⟩), .int .i64 (rootI x.2.2.2.2.1)].toArray 77), dk d x.2.2.1, bm m 3 x.2.2.2.1, rowR x.2.1.1 2 ((entR x.2.2.2.2.1).map itc), rowR a 7 (l.map opR)]) (fun x => x.1 ≤ l.length ∧ x.1 ≤ 40 ∧ WI 300 (301 * x.1) x.1 x.1 x.2.2 ∧ (entR x.2.2.2.2.1).length ≤ x.2.1.2) (fun x => 40 - x.1) ((0, (none, 0), newW 300)) ?_ ⟨lk0.trans (by first | (rfl; done) | with_reducible rfl | (congr 1; omega) | (simp; done) | (simp [*]; done)), (lk7 rfl).trans (by first | (rfl; done) | with_reducible rfl | (congr 1; omega) | (simp; done) | (simp [*]; done)), (lk1 rfl).trans (by first | (rfl; done) | with_reducible rfl | (congr 1; omega) | (simp; done) | (simp [*]; done)), trivial⟩ ⟨(lk8 rfl), (lk9 rfl), trivial⟩ (fun _ s => by have s1 := rowR_nil none 2 s; exact Stars.sel (by repeat constructor) s1) ?_
 exact ⟨Nat.zero_le _, Nat.zero_le _, new_wi (by decide), Nat.zero_le _⟩
 rintro ⟨i, ⟨ra, rc⟩, W⟩ ρ ⟨hk, hk2, hwi, hrc⟩
 simp only [cA, nA]
 dsimp only at hk hk2 hwi hrc ⊢
 refine J.seq <| J.sr <| JL.mv (t0 rfl) <| JL.mv (t5 rfl) <| JL.rd (Rd.len Try.runUnderlying22 (t0 rfl)) <| JL.rd (Rd.lss (t2 rfl) (t0 rfl)) <| JL.mv (t0 rfl) <| JL.caseD (t0 rfl) ?_ ?_
 intro hb2p hb2
 refine JL.rdG rfl (EvB (t0 rfl) hb2) rfl (Rd.move (t5 rfl)) <| JL.rdG rfl (EvB (t1 rfl) hb2) rfl (Rd.lss (t0 rfl) Ev.c) <| JL.rd (Rd.pickT (EvB (t2 rfl) hb2) (t0 rfl)) <| JL.mv (t0 rfl) <| JL.caseD (t0 rfl) ?_ ?_
 intro hb3p hb3
 refine JL.rdG rfl (EvB (t0 rfl) hb3) rfl (Rd.move (t11 rfl)) <| JL.rd (Rd.pickT (EvB (t1 rfl) hb3) (t0 rfl)) <| JL.n2 <| J.condT (EvB (t0 rfl) rfl) <| J.skip <| At.next <| J.seq <| J.block ?_
 obtain ⟨o, hlo⟩ : ∃ o, l[i]? = some o := ⟨_, List.getElem?_eq_getElem (by omega)⟩
 have hx : (l.map opR)[(i : Int).toNat]? = some (opR o) := by simp [hlo]
 refine J.draw [lz, lz, lz, lz, lz, lz, ⟨true, 0, 0⟩, ⟨false, 1, 1⟩, ⟨false, 1, 1⟩, ⟨false, 1, 2⟩, ⟨true, 1, 1⟩, ⟨false, 2, 2⟩] [6, 10] mixed rfl <| DRun.at [] [0, 1, 2, 3, 4, 5] rfl rfl ?_ ?_
 exact .nil
 refine DNew.rd rfl (Rd.ldB Try.isAgg28 Try.sizeOf28 (t14 rfl) (by repeat constructor) (by first | rfl | assumption | simp_all)) ?_
 refine DNew.rd rfl (Rd.move (t13 rfl)) <| DNew.rd rfl (Rd.move (t17 rfl)) <| DNew.rd rfl (Rd.move (t14 rfl)) <| DNew.rd rfl (Rd.sIdx Try.runUnderlying22 Try.sizeOf47 (t1 rfl) (t0 rfl) (Src.i (by repeat constructor)) (by first | (simp; done) | (simp; omega) | omega | (simp [*]; done) | (simp [*]; omega)) (by omega) (by omega)) ?_
 refine DNew.rd rfl (Rd.sLdA Try.isAgg47 Try.sizeOf47 (t0 rfl) (Src.i (by repeat constructor)) hx) ?_
 refine DNew.nil <| DRun.ef rfl (Ef.call (.cons (t5 rfl) (.cons (t4 rfl) (.cons (t0 rfl) .nil))) (do_any t d m (301 * i) i i W hwi (by omega) (by omega) (by omega) ra rc hrc o (hok o (List.mem_of_getElem? hlo))) (by repeat constructor) ?_)
 rintro ⟨⟨za, zc⟩, W2⟩ ⟨hw2, hz, -⟩
 simp only [cA, nA]
 refine DRun.at [] [7, 8, 9] rfl rfl ?_ ?_
 exact .nil
 refine DNew.rd rfl (Rd.move (t0 rfl)) <| DNew.rd rfl (Rd.extract (t0 rfl) (by repeat constructor)) ?_
 refine DNew.rd rfl (Rd.extract (t1 rfl) (by repeat constructor)) ?_
 refine DNew.nil <| DRun.ef rfl (Rd.ef (Rd.assign (t1 rfl)) ?_)
 refine DRun.end [9] [11] rfl rfl ?_ ?_
 refine DCar.rd rfl (lk1 rfl) (Rd.extract (t3 rfl) (by repeat constructor)) ?_
 exact .nil
 refine DNew.rd rfl (Rd.assign (t1 rfl)) <| DNew.nil <| At.blkN <| At.next <| J.region <| JL.mv (t23 rfl) <| JL.rd (Rd.add (t0 rfl) Ev.c (w64 (by omega) (by omega))) ?_
 refine JL.as (t0 rfl) <| JL.nil <| At.again ((i + 1, (za, zc), W2)) ?_ ?_ ⟨lk0.trans (by first | (rfl; done) | with_reducible rfl | (congr 1; omega) | (simp; done) | (simp [*]; done)), (lk4 rfl).trans (by first | (rfl; done) | with_reducible rfl | (congr 1; omega) | (simp; done) | (simp [*]; done)), (lk3 rfl).trans (by first | (rfl; done) | with_reducible rfl | (congr 1; omega) | (simp; done) | (simp [*]; done)), trivial⟩ ⟨(lk29 rfl), (lk30 rfl), trivial⟩ (fun _ => Stars.sel (by repeat constructor))
 exact ⟨by show i + 1 ≤ l.length; omega, by show i + 1 ≤ 40; omega, hw2.mono (Nat.le_refl _) (Nat.le_refl _) (by omega), hz⟩
 show 40 - (i + 1) < 40 - i; omega
 intro hb3p hb3
 refine JL.skG rfl (EvB (t0 rfl) hb3) rfl <| JL.rd (Rd.pickF (EvB (t1 rfl) hb3) Ev.c) <| JL.n2 <| J.condF (t0 rfl) <| J.exit <| At.nextX <| At.loopX <| At.blkX <| At.next <| J.sr <| JL.rd (Rd.ldB Try.isAgg28 Try.sizeOf28 (t14 rfl) (by repeat constructor) (by first | rfl | assumption | simp_all)) ?_
 refine JL.mv (t13 rfl) <| JL.mv (t15 rfl) <| JL.ef0 (Ef.stB Try.sizeOf28 (t17 rfl) (t2 rfl) (by repeat constructor) (by repeat constructor) (by first | rfl | assumption | simp_all) (by first | rfl | assumption | simp_all) (by first | exact bv_one _ | exact cons_one rfl (bv_one _) | (simp [Value.oneCell']; done) | (simp [Value.oneCell', str]; done)) (by decide) ?_)
 exact JL.as (t1 rfl) <| JL.as (t1 rfl) <| JL.nr <| At.r (((d, m, t), (ra, rc), W)) (⟨hwi.mono (by omega) (by omega) (by omega), hrc⟩) (ResV.many (rs := [.cell 2 28, .tmp 3, .tmp 4]) rfl (.agg Try.isAgg28 Try.sizeOf28 (t19 rfl) (by repeat constructor) (by first | rfl | assumption | simp_all) (.tmp (t1 rfl) (.tmp (t0 rfl) .nil))) (by simp)) rfl
 intro hb2p hb2
 refine JL.skG rfl (EvB (t0 rfl) hb2) rfl <| JL.skG rfl (EvB (t1 rfl) hb2) rfl <| JL.rd (Rd.pickF (EvB (t2 rfl) hb2) Ev.c) <| JL.mv (t0 rfl) <| JL.skG rfl (t0 rfl) rfl <| JL.rd (Rd.pickF (t1 rfl) Ev.c) <| JL.n2 <| J.condF (t0 rfl) <| J.exit <| At.nextX <| At.loopX <| At.blkX <| At.next <| J.sr <| JL.rd (Rd.ldB Try.isAgg28 Try.sizeOf28 (t14 rfl) (by repeat constructor) (by first | rfl | assumption | simp_all)) ?_
 refine JL.mv (t13 rfl) <| JL.mv (t15 rfl) <| JL.ef0 (Ef.stB Try.sizeOf28 (t17 rfl) (t2 rfl) (by repeat constructor) (by repeat constructor) (by first | rfl | assumption | simp_all) (by first | rfl | assumption | simp_all) (by first | exact bv_one _ | exact cons_one rfl (bv_one _) | (simp [Value.oneCell']; done) | (simp [Value.oneCell', str]; done)) (by decide) ?_)
 exact JL.as (t1 rfl) <| JL.as (t1 rfl) <| JL.nr <| At.r (((d, m, t), (ra, rc), W)) (⟨hwi.mono (by omega) (by omega) (by omega), hrc⟩) (ResV.many (rs := [.cell 2 28, .tmp 3, .tmp 4]) rfl (.agg Try.isAgg28 Try.sizeOf28 (t19 rfl) (by repeat constructor) (by first | rfl | assumption | simp_all) (.tmp (t1 rfl) (.tmp (t0 rfl) .nil))) (by simp)) rfl
theorem Rd.eqlS {P : Program} {C : Cx} {hs : List Assn} {ρ : Env} {d : Option Tmp} {ty : TypeId} {pos : String} {af : Array Edge} {g : Option (Nat × Bool)} {x y : Operand} {t t' : TypeId} {a b : List Value} {r : Bool} (h1 : Ev C.n ρ x (.agg a.toArray)) (h2 : Ev C.n ρ y (.agg b.toArray)) (hg : P.eqGuardType P.depth t = false) (he : EqAt P 10000 t (.agg a.toArray) (.agg b.toArray) r) :
    Rd P C hs ρ ⟨d, .binOp .eql t x y t', ty, pos, af, g⟩ (.bool r) :=
  Rd.cmp h1 h2 (fun w => run_eqGuardA hg w) fun w _ => by
    show (do pure (Value.bool (← Op.equalIn 10000 t _ _)) : Sem Value).run P w = _
    rw [Sem.run_bind, he w]; rfl
theorem eqgI : Try.prog.eqGuardType Try.prog.depth 74 = false := by kernel_rfl
theorem stoodI : Try.prog.stoodInHeld 74 = false := by kernel_rfl
theorem eqI (p q : It) : EqAt Try.prog 10000 74 (.agg [str p.1, str p.2].toArray) (.agg [str q.1, str q.2].toArray) (decide (p.1 = q.1) && decide (p.2 = q.2)) :=
  EqAt.s2 (P := Try.prog) (k := 9999) (xs := [str p.1, str p.2].toArray) (ys := [str q.1, str q.2].toArray) Try.runUnderlying74 stoodI (by decide) (by decide) (x1 := str p.1) (y1 := str q.1) (x2 := str p.2) (y2 := str q.2)
    (fun w => by simp only [part, Sem.run_bind, Try.isAgg9 w, Result.andThen]; rfl) (fun w => by simp only [part, Sem.run_bind, Try.isAgg9 w, Result.andThen]; rfl)
    (fun w => by simp only [part, Sem.run_bind, Try.isAgg9 w, Result.andThen]; rfl) (fun w => by simp only [part, Sem.run_bind, Try.isAgg9 w, Result.andThen]; rfl)
    (EqAt.strs Try.runUnderlying9 _ _) (EqAt.strs Try.runUnderlying9 _ _)
theorem eqI1 : EqAt Try.prog 10000 74 (.agg [str [97], str [49]].toArray) (.agg [str [97], str [49]].toArray) true := eqI ([97], [49]) ([97], [49])

set_option maxHeartbeats 1000000 in
theorem known_any  :
    Fn Try.prog 9 [] [] (X := Unit) (fun _ => True) (fun _ => .bool true) (fun _ => []) := by
 refine Fn.mk' (n := 86) (l := []) (fn := Try.f9) Try.func9 (by kernel_rfl) rfl rfl (by simp) rfl ?_
 intro h0 w0
 obtain ⟨w1, e1, w2, e2, w3, e3, w4, e4, m0, m1, m2, m3⟩ := k_all
 obtain ⟨k1, k2, k3, k4, k5, k6⟩ := k_rows
 have hn4 := none_of w4.pi.ok e4
 have hu4 := inL12_none w4.pi hn4
 have hr9 : rangeR [] [] 9 kW2.2.2.1 = kL := by rw [rangeR_law w2.pi.ok, e2, colL_every (fun e _ => inB_all e) (by decide)]; rfl
 have hx0 : (kL.map itc)[(0 : Int).toNat]? = some [str [97], str [49]] := rfl
 have hkl : kL.length = 2 := rfl
 refine J.sr <| JL.as Ev.c <| JL.n4 <| JL.ef (Ef.call (.cons Ev.c .nil) (fresh_any 20 (by decide) (by decide)) (by repeat constructor) ?_)
 rintro ⟨d, m, t⟩ -
 simp only [cA, nA]
 refine JL.mv (t0 rfl) <| JL.e (t0 rfl) <| JL.e (t1 rfl) <| JL.ef (Ef.alloc Try.zeroValue28 rfl ?_)
 intro b1
 refine JL.ef0 (Ef.stB Try.sizeOf28 (t0 rfl) (t2 rfl) (by repeat constructor) (by repeat constructor) (by first | rfl | assumption | simp_all) (by first | rfl | assumption | simp_all) (by first | exact bv_one _ | exact cons_one rfl (bv_one _) | (simp [Value.oneCell']; done) | (simp [Value.oneCell', str]; done)) (by decide) ?_)
 refine JL.as (t1 rfl) <| JL.n5 <| JL.mv (t0 rfl) <| JL.rd (Rd.not (EvB (t0 rfl) rfl)) <| JL.mv (t0 rfl) <| JL.rdG rfl (EvB (t0 rfl) rfl) rfl ((by first | exact Rd.fld0 fld_28_2 (t4 rfl) | exact Rd.fld fld_28_2 (t4 rfl))) ?_
 refine JL.rdG rfl (EvB (t1 rfl) rfl) rfl (Rd.ldN Try.isAgg26 (t0 rfl) (by repeat constructor) (by repeat constructor)) ?_
 refine JL.efG rfl (EvB (t2 rfl) rfl) rfl (Ef.call (.cons (t0 rfl) (.cons Ev.c (.cons Ev.c .nil))) (put_w t d m 20 0 0 0 (newW 20) [98] [50] (new_wi (by decide)) (by decide) (by decide) m0) (by repeat constructor) ?_)
 rintro - -
 rw [show putC [98] [50] = 0 from rfl, show putW [98] [50] (newW 20) = kW1 from rfl]
 simp only [cA, nA]
 refine JL.rdG rfl (EvB (t3 rfl) rfl) rfl (Rd.neq (t0 rfl) Ev.c) <| JL.rd (Rd.pickF (EvB (t4 rfl) rfl) (t0 rfl)) <| JL.mv (t0 rfl) <| JL.rdG rfl (EvB (t0 rfl) rfl) rfl ((by first | exact Rd.fld0 fld_28_2 (t10 rfl) | exact Rd.fld fld_28_2 (t10 rfl))) ?_
 refine JL.rdG rfl (EvB (t1 rfl) rfl) rfl (Rd.ldN Try.isAgg26 (t0 rfl) (by repeat constructor) (by repeat constructor)) ?_
 refine JL.efG rfl (EvB (t2 rfl) rfl) rfl (Ef.call (.cons (t0 rfl) (.cons Ev.c (.cons Ev.c .nil))) (put_w t d m 20 20 1 0 kW1 [97] [49] w1 (by decide) (by decide) m1) (by repeat constructor) ?_)
 rintro - -
 rw [show putC [97] [49] = 0 from rfl, show putW [97] [49] kW1 = kW2 from rfl]
 simp only [cA, nA]
 refine JL.rdG rfl (EvB (t3 rfl) rfl) rfl (Rd.neq (t0 rfl) Ev.c) <| JL.rd (Rd.pickF (EvB (t4 rfl) rfl) (t0 rfl)) <| JL.n2 <| J.condF (EvB (t0 rfl) rfl) <| J.k4 <| JL.rd ((by first | exact Rd.fld0 fld_28_2 (t15 rfl) | exact Rd.fld fld_28_2 (t15 rfl))) ?_
 refine JL.rd (Rd.ldN Try.isAgg26 (t0 rfl) (by repeat constructor) (by repeat constructor)) ?_
 refine JL.ef (Ef.call (.cons (t0 rfl) (.cons Ev.c (.cons Ev.c (.cons Ev.c .nil)))) (range_any t d m kW2.1 3 kW2.2.1 kW2.2.2.1 [] [] 9 w2.live.2.1 (w2.pi.rhd (by rw [e2]; decide)) (by rw [e2]; decide)) (by repeat constructor) ?_)
 rintro ⟨ra, rc⟩ -
 rw [hr9]
 simp only [cA, nA]
 refine JL.mv (t0 rfl) <| JL.e (t0 rfl) <| JL.e (t1 rfl) <| JL.as (t1 rfl) <| JL.as (t1 rfl) <| JL.ns <| J.live (K := [(4, _), (3, _), (1, _), (0, _)]) ⟨lk0, (lk1 rfl), (lk23 rfl), (lk28 rfl), trivial⟩ ?_
 intro ρ2
 refine J.region <| JL.rd ((by first | exact Rd.fld0 fld_28_2 (t2 rfl) | exact Rd.fld fld_28_2 (t2 rfl))) ?_
 refine JL.rd (Rd.ldN Try.isAgg26 (t0 rfl) (by repeat constructor) (by repeat constructor)) ?_
 refine JL.ef (Ef.call (.cons (t0 rfl) (.cons Ev.c .nil)) (del_w t d m 20 40 2 0 kW2 [97] w2 (by decide) (by decide) m2) (by repeat constructor) ?_)
 rintro - -
 rw [e2, k3, show delW [97] kW2 = kW3 from rfl]
 simp only [cA, nA]
 refine JL.mv (t0 rfl) <| JL.e (t0 rfl) <| JL.e (t1 rfl) <| JL.as (t1 rfl) <| JL.as (t1 rfl) <| JL.n4 <| JL.rd ((by first | exact Rd.fld0 fld_28_2 (t10 rfl) | exact Rd.fld fld_28_2 (t10 rfl))) ?_
 refine JL.rd (Rd.ldN Try.isAgg26 (t0 rfl) (by repeat constructor) (by repeat constructor)) ?_
 refine JL.ef (Ef.call (.cons (t0 rfl) (.cons Ev.c .nil)) (del_w t d m 20 60 3 0 kW3 [98] w3 (by decide) (by decide) m3) (by repeat constructor) ?_)
 rintro - -
 rw [e3, k5, show delW [98] kW3 = kW4 from rfl]
 simp only [cA, nA]
 refine JL.mv (t0 rfl) <| JL.e (t0 rfl) <| JL.e (t1 rfl) <| JL.as (t1 rfl) <| JL.as (t1 rfl) <| JL.n4 <| JL.mv (t16 rfl) <| JL.rd (Rd.eql (t0 rfl) Ev.c) <| JL.mv (t0 rfl) <| JL.rdG rfl (EvB (t0 rfl) rfl) rfl (Rd.move (t20 rfl)) <| JL.rdG rfl (EvB (t1 rfl) rfl) rfl (Rd.len Try.runUnderlying70 (t0 rfl)) <| JL.rdG rfl (EvB (t2 rfl) rfl) rfl (Rd.eql (t0 rfl) Ev.c) <| JL.rd (Rd.pickT (EvB (t3 rfl) rfl) (t0 rfl)) <| JL.mv (t0 rfl) <| JL.rdG rfl (EvB (t0 rfl) rfl) rfl (Rd.move (t25 rfl)) <| JL.rdG rfl (EvB (t1 rfl) rfl) rfl (Rd.sIdx Try.runUnderlying70 Try.sizeOf74 (t0 rfl) Ev.c (Src.i (by repeat constructor)) (by first | (simp; done) | (simp; omega) | omega | (simp [*]; done) | (simp [*]; omega)) (by omega) (by omega)) ?_
 refine JL.rdG rfl (EvB (t2 rfl) rfl) rfl (Rd.sLdA Try.isAgg74 Try.sizeOf74 (t0 rfl) (Src.i (by repeat constructor)) hx0) ?_
 refine JL.rdG rfl (EvB (t3 rfl) rfl) rfl (Rd.buildS (.cons Ev.c (.cons Ev.c .nil)) bld_74 (by repeat (first | exact FillN.nil | apply FillN.one rfl rfl (by repeat constructor)))) ?_
 refine JL.rdG rfl (EvB (t4 rfl) rfl) rfl (Rd.eqlS (a := [str [97], str [49]]) (b := [str [97], str [49]]) (t1 rfl) (t0 rfl) eqgI eqI1) <| JL.rd (Rd.pickT (EvB (t5 rfl) rfl) (t0 rfl)) <| JL.mv (t0 rfl) <| JL.rdG rfl (EvB (t0 rfl) rfl) rfl (Rd.move (t23 rfl)) <| JL.rdG rfl (EvB (t1 rfl) rfl) rfl (Rd.eql (t0 rfl) Ev.c) <| JL.rd (Rd.pickT (EvB (t2 rfl) rfl) (t0 rfl)) <| JL.mv (t0 rfl) <| JL.rdG rfl (EvB (t0 rfl) rfl) rfl (Rd.move (t28 rfl)) <| JL.rd (Rd.pickT (EvB (t1 rfl) rfl) (t0 rfl)) <| JL.mv (t0 rfl) <| JL.rdG rfl (EvB (t0 rfl) rfl) rfl (Rd.move (t22 rfl)) <| JL.rdG rfl (EvB (t1 rfl) rfl) rfl (Rd.eql (t0 rfl) Ev.c) <| JL.rd (Rd.pickT (EvB (t2 rfl) rfl) (t0 rfl)) <| JL.mv (t0 rfl) <| JL.live (K := [(70, _), (7, _), (1, _), (0, _)]) ⟨lk0, (lk27 rfl), (lk44 rfl), (lk45 rfl), trivial⟩ ?_
 intro ρ3
 refine JL.rdG rfl (EvB (t0 rfl) rfl) rfl (Rd.move (t1 rfl)) <| JL.rd (Rd.pickT (EvB (t1 rfl) rfl) (t0 rfl)) <| JL.mv (t0 rfl) <| JL.rdG rfl (EvB (t0 rfl) rfl) rfl ((by first | exact Rd.fld0 fld_28_2 (t5 rfl) | exact Rd.fld fld_28_2 (t5 rfl))) ?_
 refine JL.rdG rfl (EvB (t1 rfl) rfl) rfl (Rd.ldN Try.isAgg26 (t0 rfl) (by repeat constructor) (by repeat constructor)) ?_
 refine JL.efG rfl (EvB (t2 rfl) rfl) rfl (Ef.call (.cons (t0 rfl) .nil) (root_any t d m (rootI kW4.2.2.1)) (by repeat constructor) ?_)
 rintro - -
 rw [show rootI kW4.2.2.1 = -1 by rw [hn4]; rfl]
 simp only [cA, nA]
 refine JL.rdG rfl (EvB (t3 rfl) rfl) rfl (Rd.eql (t0 rfl) Ev.c) <| JL.rd (Rd.pickT (EvB (t4 rfl) rfl) (t0 rfl)) <| JL.mv (t0 rfl) <| JL.rdG rfl (EvB (t0 rfl) rfl) rfl ((by first | exact Rd.fld0 fld_28_1 (t11 rfl) | exact Rd.fld fld_28_1 (t11 rfl))) ?_
 refine JL.rdG rfl (EvB (t1 rfl) rfl) rfl (Rd.ldN Try.isAgg25 (t0 rfl) (by repeat constructor) (by repeat constructor)) ?_
 refine JL.efG rfl (EvB (t2 rfl) rfl) rfl (Ef.call (.cons (t0 rfl) .nil) (mused_any m 3 kW4.2.1 (by rw [w4.len]; decide)) (by repeat constructor) ?_)
 rintro ⟨ua, uc⟩ -
 rw [hu4]
 simp only [cA, nA]
 exact JL.rdG rfl (EvB (t3 rfl) rfl) rfl (Rd.len Try.runUnderlying43 (t0 rfl)) <| JL.rdG rfl (EvB (t4 rfl) rfl) rfl (Rd.eql (t0 rfl) Ev.c) <| JL.rd (Rd.pickT (EvB (t5 rfl) rfl) (t0 rfl)) <| JL.as (t0 rfl) <| JL.nr <| At.r (()) (trivial) (ResV.one rfl (t0 rfl)) rfl
end Go.Proofs.Ytbhladkbnleeoaa

namespace Go.Proofs.Ytbhladkbnleeoaa

theorem inL_nodup (s : Bs) (l : List Int) : (inL s l).Nodup := by
  unfold inL selL
  exact List.Pairwise.sublist List.filter_sublist List.nodup_range
theorem load_hd {f n : Nat} {D D' : Dk} {s s' : Bs} {rt ct : Rt} (P : PI f D s rt ct) (hn : s.length = n) (hd : hdR f D' s' rt) : hdR f D' (loadS n (inL s [1, 2])) rt ∧ ∀ b ∈ bksR rt, usedB f (loadS n (inL s [1, 2])) (b : Int) = true := by
  have h1 : ∀ b ∈ bksR rt, f ≤ b ∧ b - f < n ∧ (loadS n (inL s [1, 2])).getD (b - f) 0 = 1 := fun b hb => by
    obtain ⟨_, a1, a2, _⟩ := P.hd.all b hb
    refine ⟨a1, by omega, ?_⟩
    rw [loadS_getD _ _ _ (by omega), if_pos]
    exact (inL12 P _).2 ⟨a2, by rw [show f + (b - f) = b by omega]; exact hb⟩
  refine ⟨hd.congr rfl fun x hx => ⟨?_, rfl⟩, fun b hb => ?_⟩
  · obtain ⟨a1, a2, a3⟩ := h1 x hx
    exact ⟨a1, by rw [loadS_length]; exact a2, by rw [a3]; decide⟩
  · obtain ⟨a1, a2, a3⟩ := h1 b hb
    obtain ⟨e1, e2⟩ := inr_nat (f := f) (s := loadS n (inL s [1, 2])) a1 (by rw [loadS_length]; exact a2)
    unfold usedB
    rw [e1, e2, a3]
    exact decide_eq_true ⟨rfl, .inl rfl⟩
theorem bks_used {f : Nat} {D : Dk} {s : Bs} {rt ct : Rt} (P : PI f D s rt ct) : ∀ b ∈ bksR rt, usedB f s (b : Int) = true := fun b hb => by
  obtain ⟨_, a1, a2, _⟩ := P.hd.all b hb
  obtain ⟨e1, e2⟩ := inr_nat (f := f) (s := s) a1 a2
  have h3 := (P.use (b - f) a2).2 (by rw [show f + (b - f) = b by omega]; exact hb)
  unfold usedB
  rw [e1, e2]
  exact decide_eq_true ⟨rfl, by rcases h3 with h | h <;> rw [h] <;> decide⟩
theorem load_cases {f : Nat} {D : Dk} {s : Bs} {rt ct : Rt} (P : PI f D s rt ct) (i : Int) : i = -1 ∨ (i ≠ -1 ∧ usedB f s i = true ∧ stC f s i = 0 ∧ stV f s i ≠ 0 ∧ stV f s i ≠ 3) ∨ (i ≠ -1 ∧ usedB f s i = false ∧ stC f s i ≠ 0) ∨ (i ≠ -1 ∧ usedB f s i = false ∧ stC f s i = 0 ∧ stV f s i = 0) ∨ (i ≠ -1 ∧ usedB f s i = false ∧ stC f s i = 0 ∧ stV f s i ≠ 0 ∧ stV f s i = 3) := by
  by_cases h : i = -1
  · exact .inl h
  have hlt := stV_lt P i
  unfold usedB
  by_cases h1 : stC f s i = 0
  · by_cases h2 : stV f s i = 0
    · exact .inr (.inr (.inr (.inl ⟨h, decide_eq_false (by omega), h1, h2⟩)))
    · by_cases h3 : stV f s i = 3
      · exact .inr (.inr (.inr (.inr ⟨h, decide_eq_false (by omega), h1, h2, h3⟩)))
      · exact .inr (.inl ⟨h, decide_eq_true (by omega), h1, h2, h3⟩)
  · exact .inr (.inr (.inl ⟨h, decide_eq_false fun h4 => h1 h4.1, h1⟩))
theorem WI.reold {n N k j j' : Nat} {W : Ws} (h : WI n N k j W) (e : (entR W.2.2.2).length ≤ j') : WI n N k j' W :=
  ⟨h.pi, h.len, h.live, h.n300, h.ops, h.pend, h.rows, e⟩
def limW (q : Int) (W : Ws) : Ws := ({ W.1 with lim := q }, W.2.1, W.2.2.1, W.2.2.2)
theorem inL_lt {s : Bs} {l : List Int} : ∀ x ∈ inL s l, x < s.length := fun _ hx => (selL_mem.1 hx).1
theorem inL_len (s : Bs) (l : List Int) : (inL s l).length ≤ s.length := by
  have := nodup_len (inL_nodup s l) (m := List.range s.length) fun x hx => List.mem_range.2 (inL_lt x hx)
  rwa [List.length_range] at this
/-! ### a failure of the power -/
structure CI (D1 : Dk) (ct : Rt) (i : Nat) (W : Ws) : Prop where
  pi : PI 3 W.1 W.2.1 W.2.2.1 W.2.2.2
  cte : W.2.2.2 = ct
  len : W.2.1.length = 300
  n : W.1.n = 303
  ops : W.1.ops ≤ 12041 + 300 * i
  pend : W.1.pend.length ≤ 300 * i
  rows : (entR W.2.2.1).length ≤ 40 + i
  dur : W.1.dur = D1.dur
  dx : ∀ w ∈ W.1.pend, w.1 ∉ bksR ct
theorem com_ci {W : Ws} (h : WI 300 12040 40 40 W) (q : Int) : CI (comW W).1 (comW W).2.2.1 0 (limW q (comW W)) ∧ (∀ x, (comW W).1.vis x = (comW W).1.dur x) := by
  obtain ⟨f1, f2, f3, f4, f5, f6, f7, f8, f9⟩ := flush_live h.live.1 h.live.2.1
  have h1 := com_wi h
  refine ⟨⟨?_, rfl, h1.len, h1.live.2.2, h1.ops, ?_, h1.rows, rfl, fun w hw => ?_⟩, fun x => (f8 x).trans (f9 x).symm⟩
  · have P := h1.pi
    exact ⟨P.ok, hdR.congr (D := (comW W).1) (D' := (limW q (comW W)).1) (s' := (comW W).2.1) rfl P.hd fun x hx => ⟨(P.hd.all x hx).2, rfl⟩, P.nd, P.use, P.cok, hdR.congr (D := (comW W).1) (D' := (limW q (comW W)).1) (s' := (comW W).2.1) rfl P.chd fun x hx => ⟨(P.chd.all x hx).2, rfl⟩, P.cnd, P.old, P.le4⟩
  · show (flushD W.1).pend.length ≤ _
    rw [f7]; exact Nat.le_refl _
  · have hw : w ∈ (flushD W.1).pend := hw
    rw [f7] at hw; cases hw
def putG (key val : Bs) (W : Ws) : Int := if putC key val = 0 then (putA key val W).2.1 else putC key val
theorem space_step {n N k : Nat} {W : Ws} {key val : Bs} (h : WI n N k 0 W) (hN : N ≤ 500000) (hk : k ≤ 1000) :
    (putC key val ≠ 0 ∧ putG key val W = putC key val ∧ putW key val W = W ∧ WI n (N + n) (k + 1) 0 W) ∨
    (putC key val = 0 ∧ putG key val W = 0 ∧ WI n (N + n) (k + 1) 0 (putW key val W) ∧ entR (putW key val W).2.2.1 = putL key val (entR W.2.2.1)) ∨
    (putC key val = 0 ∧ putG key val W = 26 ∧ frS W.2.1 < 3 * hgtR W.2.2.1 + 1 ∧ (putW key val W).2.1 = W.2.1 ∧ (putW key val W).2.2.1 = W.2.2.1 ∧ WI n (N + n) (k + 1) 0 ((putW key val W).1, W.2.1, W.2.2.1, (putW key val W).2.2.2)) := by
  unfold putG
  by_cases hc : putC key val = 0
  · rw [if_pos hc]
    have hk0 : key ≠ [] := fun e => by rw [e] at hc; exact absurd hc (show ¬ ((4 : Int) = 0) by decide)
    have hl : ¬ (112 < key.length ∨ 360 < val.length) := fun e => by rw [putC_long hk0 e] at hc; exact absurd hc (by decide)
    have hp : putW key val W = apW W (putA key val W) := if_pos hc
    obtain ⟨_, _, _, a4, a5, a6, a7⟩ := wi_apply h hN hk (put_item hk0 hl) (Nat.le_refl 1) (fun e he => by obtain rfl := List.mem_singleton.1 he; rfl) (A := putA key val W) rfl
    rw [hp]
    by_cases h0 : (putA key val W).2.1 = 0
    · refine .inr (.inl ⟨hc, h0, a4, ?_⟩)
      unfold putL
      rw [if_pos hc]
      exact a6 h0
    · obtain ⟨b1, b2⟩ := a5 h0
      rcases a7 with a7 | ⟨a7, a8⟩
      · exact absurd a7 h0
      · refine .inr (.inr ⟨hc, a7, a8, b1, b2, ?_⟩)
        have e1 : (apW W (putA key val W)).2.1 = W.2.1 := b1
        have e2 : (apW W (putA key val W)).2.2.1 = W.2.2.1 := b2
        rw [← e1, ← e2]
        exact a4
  · rw [if_neg hc]
    exact .inl ⟨hc, rfl, if_neg hc, h.mono (by omega) (by omega) (by omega)⟩
theorem frS_inL (s : Bs) : (inL s [0]).length = frS s := by
  have hgo : ∀ n, n ≤ s.length → (selL (inP s [0]) n).length = frS (s.take n) := by
    intro n
    induction n with
    | zero => intro _; simp [frS, selL]
    | succ n ih =>
      intro hn
      obtain ⟨c, hc⟩ : ∃ c, s[n]? = some c := ⟨_, List.getElem?_eq_getElem (by omega)⟩
      have hg : s.getD n 0 = c := getD_of hc
      have h2 : frS (s.take n ++ [c]) = frS (s.take n) + if c = 0 then 1 else 0 := by
        unfold frS
        rw [List.countP_append, List.countP_singleton]
        simp
      rw [selL_succ, take_step hc, List.length_append, ih (by omega), h2]
      have hP : inP s [0] n = decide (c = 0) := by
        unfold inP
        rw [hg]
        refine decide_eq_decide.2 ?_
        simp only [List.mem_singleton]
        exact ⟨fun h => UInt8.toNat_inj.1 (by show _ = 0; omega), fun h => by rw [h]; rfl⟩
      rw [hP]
      by_cases h0 : c = 0 <;> simp [h0]
  have := hgo s.length (Nat.le_refl _)
  rwa [List.take_length] at this
end Go.Proofs.Ytbhladkbnleeoaa

namespace Go.Proofs.Ytbhladkbnleeoaa
set_option maxRecDepth 100000
attribute [local irreducible] J JL At Rd Ef DNew DCar DRun Then RetQ LoopQ

theorem load_rt (d m : Nat) (D : Dk) (s : Bs) (rt : Rt) (hd : hdR 3 D s rt) (hdn : D.down = false) (hn : D.n ≤ 65536) (hu : ∀ b ∈ bksR rt, usedB 3 s (b : Int) = true) : Fn Try.prog 13 [.pointer (some ⟨d, 0, none⟩), .pointer (some ⟨m, 0, none⟩), .int .i64 (rootI rt)] [dk d D, bm m 3 s] (X := Nat) (fun _ => True) (fun x => .tuple #[.pointer (some ⟨x, 0, none⟩), .int .i64 0]) (fun x => [pts x (.cells [.pointer (some ⟨d, 0, none⟩), .pointer (some ⟨m, 0, none⟩), .int .i64 (rootI rt)].toArray 77), dk d D, bm m 3 s]) := by
  match rt, hd, hu with
  | none, _, _ => exact (tload_none d m).frame [dk d D, bm m 3 s]
  | some r, hd, hu =>
    have hm : r.2.1 ∈ bksR (some r) := List.mem_cons_self ..
    obtain ⟨n, h1, h2, h3⟩ := hdR.node (rt := some r) hd hm
    exact tload_ok d m 3 s D r.2.1 n h1 h2 h3 hdn (by omega) (hu _ hm)
theorem tload_m1 (d m : Nat) (i : Int) (h : i = -1) : Fn Try.prog 13 [.pointer (some ⟨d, 0, none⟩), .pointer (some ⟨m, 0, none⟩), .int .i64 i] [] (X := Nat) (fun _ => True) (fun x => .tuple #[.pointer (some ⟨x, 0, none⟩), .int .i64 0]) (fun x => [pts x (.cells [.pointer (some ⟨d, 0, none⟩), .pointer (some ⟨m, 0, none⟩), .int .i64 (-1)].toArray 77)]) := by
  subst h; exact tload_none d m
theorem tload_us (d m : Nat) (D : Dk) (s : Bs) (rt ct : Rt) (P : PI 3 D s rt ct) (hdn : D.down = false) (hn : D.n ≤ 65536) (i : Int) (hu : usedB 3 s i = true) : Fn Try.prog 13 [.pointer (some ⟨d, 0, none⟩), .pointer (some ⟨m, 0, none⟩), .int .i64 i] [dk d D, bm m 3 s] (X := Nat) (fun _ => True) (fun x => .tuple #[.pointer (some ⟨x, 0, none⟩), .int .i64 0]) (fun x => [pts x (.cells [.pointer (some ⟨d, 0, none⟩), .pointer (some ⟨m, 0, none⟩), .int .i64 i].toArray 77), dk d D, bm m 3 s]) := by
  obtain ⟨b, rfl, hb⟩ := used_blk P hu
  obtain ⟨n, h1, h2, h3⟩ := P.hd.node hb
  exact tload_ok d m 3 s D b n h1 h2 h3 hdn (by omega) hu
theorem put_g (t d m : Nat) (W : Ws) (key val : Bs) (P : PI 3 W.1 W.2.1 W.2.2.1 W.2.2.2) (hR : RHd 3 W.1 W.2.1 W.2.2.1) (hs : StOk ⟨W.1, W.2.1, [], []⟩) : Fn Try.prog 27 [.pointer (some ⟨t, 0, none⟩), str key, str val] [pts t (.cells [.pointer (some ⟨d, 0, none⟩), .pointer (some ⟨m, 0, none⟩), .int .i64 (rootI W.2.2.1)].toArray 77), dk d W.1, bm m 3 W.2.1] (X := Unit) (fun _ => True) (fun _ => .int .i64 (putG key val W)) (fun _ => [pts t (.cells [.pointer (some ⟨d, 0, none⟩), .pointer (some ⟨m, 0, none⟩), .int .i64 (rootI (putW key val W).2.2.1)].toArray 77), dk d (putW key val W).1, bm m 3 (putW key val W).2.1]) := put_gen t d m W key val P hR hs

theorem rhd_of {f : Nat} {D D' : Dk} {s s' : Bs} {rt ct : Rt} (P : PI f D s rt ct) (h : hdR f D' s' rt) (hl : (entR rt).length ≤ 1000000) : RHd f D' s' rt := by
  have h1 := P.rhd hl
  match rt, h, h1 with
  | none, _, _ => trivial
  | some r, h, h1 => exact ⟨h1.1, h⟩

set_option maxHeartbeats 1000000 in
theorem loads_any (a : Option Addr) (cap : Nat) (l : List OpR) (hl : l.length ≤ 9223372036854775807) (hok : ∀ o ∈ l, o.ok) (root : Int) (hr1 : -9223372036854775808 ≤ root) (hr2 : root ≤ 9223372036854775807) :
    Fn Try.prog 5 [.slice a l.length cap, .int .i64 root] [rowR a 7 (l.map opR)] (X := Unit) (fun _ => True) (fun _ => .bool true) (fun _ => []) := by
 refine Fn.mk' (n := 100) (l := [(0, .slice a l.length cap), (1, .int .i64 root)]) (fn := Try.f5) Try.func5 (by kernel_rfl) rfl rfl (by simp) rfl ?_
 intro h0 w0
 refine J.sr <| JL.as Ev.c <| JL.n5 <| JL.ef (Ef.call .nil (known_any) (by repeat constructor) ?_)
 rintro - -
 simp only [nA]
 refine JL.rd (Rd.not (EvB (t0 rfl) rfl)) <| JL.n2 <| J.condF (EvB (t0 rfl) rfl) <| J.k4 <| JL.mv (t3 rfl) <| JL.ef (Ef.call (.cons (t0 rfl) .nil) (play_any a cap l hl hok) (by repeat constructor) ?_)
 rintro ⟨⟨d, m, t⟩, ⟨ra, rc⟩, W⟩ ⟨hwi, hrc⟩
 dsimp only at hwi hrc
 have hrows := hwi.rows
 simp only [cA, nA]
 refine JL.mv (t0 rfl) <| JL.e (t0 rfl) <| JL.e (t1 rfl) <| JL.e (t2 rfl) <| JL.ef (Ef.alloc Try.zeroValue28 rfl ?_)
 intro b1
 refine JL.ef0 (Ef.stB Try.sizeOf28 (t0 rfl) (t3 rfl) (by repeat constructor) (by repeat constructor) (by first | rfl | assumption | simp_all) (by first | rfl | assumption | simp_all) (by first | exact bv_one _ | exact cons_one rfl (bv_one _) | (simp [Value.oneCell']; done) | (simp [Value.oneCell', str]; done)) (by decide) ?_)
 refine JL.as (t2 rfl) <| JL.as (t2 rfl) <| JL.n5 <| JL.mv (t0 rfl) <| JL.rd (Rd.not (EvB (t0 rfl) rfl)) <| JL.n2 <| J.condF (EvB (t0 rfl) rfl) <| J.skip <| At.next <| J.seq <| J.draw [⟨false, 0, 1⟩, ⟨false, 0, 1⟩, ⟨false, 0, 1⟩, ⟨false, 0, 1⟩, lz, lz, ⟨true, 0, 0⟩, ⟨true, 1, 1⟩, ⟨false, 2, 2⟩, ⟨false, 2, 2⟩, ⟨false, 2, 2⟩, ⟨false, 2, 2⟩, ⟨false, 2, 2⟩] [6, 7] mixed rfl <| DRun.at [] [0, 1, 2, 3, 4, 5] rfl rfl ?_ ?_
 exact .nil
 refine DNew.rd rfl ((by first | exact Rd.fld0 fld_28_0 (t4 rfl) | exact Rd.fldz fld_28_0 (t4 rfl))) ?_
 refine DNew.rd rfl (Rd.ldN Try.isAgg24 (t0 rfl) (by repeat constructor) (by repeat constructor)) ?_
 refine DNew.rd rfl ((by first | exact Rd.fld0 fld_28_1 (t6 rfl) | exact Rd.fld fld_28_1 (t6 rfl))) ?_
 refine DNew.rd rfl (Rd.ldN Try.isAgg25 (t0 rfl) (by repeat constructor) (by repeat constructor)) ?_
 refine DNew.rd rfl ((by first | exact Rd.fld0 fld_28_2 (t8 rfl) | exact Rd.fld fld_28_2 (t8 rfl))) ?_
 refine DNew.rd rfl (Rd.ldN Try.isAgg26 (t0 rfl) (by repeat constructor) (by repeat constructor)) ?_
 refine DNew.nil <| DRun.ef rfl (Ef.call (.cons (t0 rfl) .nil) (root_any t d m (rootI W.2.2.1)) (by repeat constructor) ?_)
 rintro - -
 simp only [cA, nA]
 refine DRun.at [0, 1, 2, 3] [] rfl rfl ?_ ?_
 refine DCar.rd rfl (lk6 rfl) ((by first | exact Rd.fld0 fld_28_0 (t11 rfl) | exact Rd.fldz fld_28_0 (t11 rfl))) ?_
 refine DCar.rd rfl (lk5 rfl) (Rd.ldN Try.isAgg24 (t6 rfl) (by repeat constructor) (by repeat constructor)) ?_
 refine DCar.rd rfl (lk4 rfl) ((by first | exact Rd.fld0 fld_28_1 (t11 rfl) | exact Rd.fld fld_28_1 (t11 rfl))) ?_
 refine DCar.rd rfl (lk3 rfl) (Rd.ldN Try.isAgg25 (t4 rfl) (by repeat constructor) (by repeat constructor)) ?_
 exact .nil
 refine DNew.nil <| DRun.ef rfl (Ef.call (.cons (t5 rfl) (.cons (t3 rfl) (.cons (t0 rfl) .nil))) (load_rt d m W.1 W.2.1 W.2.2.1 hwi.pi.hd hwi.live.2.1 (by rw [hwi.live.2.2]; decide) (bks_used hwi.pi)) (by repeat constructor) ?_)
 rintro p1 -
 simp only [cA, nA]
 refine DRun.end [] [8, 9, 10, 11, 12] rfl rfl ?_ ?_
 exact .nil
 refine DNew.rd rfl (Rd.move (t0 rfl)) <| DNew.rd rfl (Rd.extract (t0 rfl) (by repeat constructor)) ?_
 refine DNew.rd rfl (Rd.extract (t1 rfl) (by repeat constructor)) ?_
 refine DNew.rd rfl (Rd.assign (t1 rfl)) <| DNew.rd rfl (Rd.assign (t1 rfl)) <| DNew.n2 <| J.seq <| J.live (K := [(9, _), (8, _), (6, _), (5, _), (4, _), (1, _)]) ⟨lk0, (lk1 rfl), (lk16 rfl), (lk17 rfl), (lk26 rfl), (lk28 rfl), trivial⟩ ?_
 intro ρ2
 refine J.region <| JL.rd ((by first | exact Rd.fld0 fld_28_0 (t3 rfl) | exact Rd.fldz fld_28_0 (t3 rfl))) ?_
 refine JL.rd (Rd.ldN Try.isAgg24 (t0 rfl) (by repeat constructor) (by repeat constructor)) ?_
 refine JL.rd ((by first | exact Rd.fld0 fld_28_1 (t5 rfl) | exact Rd.fld fld_28_1 (t5 rfl))) ?_
 refine JL.rd (Rd.ldN Try.isAgg25 (t0 rfl) (by repeat constructor) (by repeat constructor)) ?_
 refine JL.ef (Ef.call (.cons (t2 rfl) (.cons (t0 rfl) (.cons Ev.c .nil))) (tload_none d m) (by repeat constructor) ?_)
 rintro p2 -
 simp only [cA, nA]
 refine JL.mv (t0 rfl) <| JL.e (t0 rfl) <| JL.e (t1 rfl) <| JL.as (t1 rfl) <| JL.as (t1 rfl) <| JL.ns <| J.seq <| J.weak (fun _ st => (show Stars (rowR none 2 (List.map itc []) :: _) _ from rowR_nil none 2 st)) <| J.region <| JL.mv (t10 rfl) <| JL.rd (Rd.neq (t0 rfl) Ev.c) <| JL.mv (t0 rfl) <| JL.rdG rfl (EvB (t0 rfl) rfl) rfl (Rd.move (t3 rfl)) <| JL.rdG rfl (EvB (t1 rfl) rfl) rfl (Rd.neq (t0 rfl) Ev.c) <| JL.rd (Rd.pickF (EvB (t2 rfl) rfl) (t0 rfl)) <| JL.mv (t0 rfl) <| JL.rdG rfl (EvB (t0 rfl) rfl) rfl (Rd.move (t18 rfl)) <| JL.rdG rfl (EvB (t1 rfl) rfl) rfl (Rd.move (t20 rfl)) <| JL.efG rfl (EvB (t2 rfl) rfl) rfl (Ef.call (.cons (t1 rfl) (.cons (t0 rfl) .nil)) (all_any p1 d m 3 W.1 W.2.1 W.2.2.1 hwi.pi.ok hwi.pi.hd (hwi.pi.rhd (by omega)) hwi.live.2.1 (by omega) ra rc (entR W.2.2.1) (by omega)) (by repeat constructor) ?_)
 rintro - -
 rw [decide_eq_true rfl]
 simp only [cA, nA]
 refine JL.rdG rfl (EvB (t3 rfl) rfl) rfl (Rd.not (EvB (t0 rfl) rfl)) <| JL.rd (Rd.pickF (EvB (t4 rfl) rfl) (t0 rfl)) <| JL.mv (t0 rfl) <| JL.rdG rfl (EvB (t0 rfl) rfl) rfl (Rd.move (t14 rfl)) <| JL.efG rfl (EvB (t1 rfl) rfl) rfl (Ef.call (.cons (t0 rfl) (.cons Ev.c .nil)) (all_any p2 d m 3 W.1 W.2.1 none trivial trivial trivial hwi.live.2.1 (Nat.zero_le _) none 0 [] (Nat.zero_le _)) (by repeat constructor) ?_)
 rintro - -
 rw [show decide (entR none = ([] : List It)) = true from decide_eq_true rfl]
 simp only [cA, nA]
 refine JL.rdG rfl (EvB (t2 rfl) rfl) rfl (Rd.not (EvB (t0 rfl) rfl)) <| JL.rd (Rd.pickF (EvB (t3 rfl) rfl) (t0 rfl)) <| JL.n2 <| J.condF (EvB (t0 rfl) rfl) <| J.skip <| At.next <| J.seq <| J.live (K := [(5, _), (4, _), (1, _)]) ⟨(lk30 rfl), (lk31 rfl), (lk32 rfl), trivial⟩ ?_
 intro ρ3
 refine J.region <| JL.rd ((by first | exact Rd.fld0 fld_28_1 (t0 rfl) | exact Rd.fld fld_28_1 (t0 rfl))) ?_
 refine JL.rd (Rd.ldN Try.isAgg25 (t0 rfl) (by repeat constructor) (by repeat constructor)) ?_
 refine JL.mv (t4 rfl) <| JL.ef (Ef.call (.cons (t1 rfl) (.cons (t0 rfl) .nil)) (state_any m 3 W.2.1 root hr1 hr2) (by repeat constructor) ?_)
 rintro - -
 simp only [cA, nA]
 refine JL.mv (t0 rfl) <| JL.e (t0 rfl) <| JL.e (t1 rfl) <| JL.as (t1 rfl) <| JL.as (t1 rfl) <| JL.ns ?_
 rcases load_cases hwi.pi root with hlc | ⟨hlc, hlu, hl0, hl1, hl2⟩ | ⟨hlc, hlu, hl0⟩ | ⟨hlc, hlu, hl0, hl1⟩ | ⟨hlc, hlu, hl0, hl1, hl2⟩
 refine J.region <| JL.rd ((by first | exact Rd.fld0 fld_28_0 (t9 rfl) | exact Rd.fldz fld_28_0 (t9 rfl))) ?_
 refine JL.rd (Rd.ldN Try.isAgg24 (t0 rfl) (by repeat constructor) (by repeat constructor)) ?_
 refine JL.rd ((by first | exact Rd.fld0 fld_28_1 (t11 rfl) | exact Rd.fld fld_28_1 (t11 rfl))) ?_
 refine JL.rd (Rd.ldN Try.isAgg25 (t0 rfl) (by repeat constructor) (by repeat constructor)) ?_
 refine JL.mv (t15 rfl) <| JL.ef (Ef.call (.cons (t3 rfl) (.cons (t1 rfl) (.cons (t0 rfl) .nil))) (tload_m1 d m root hlc) (by repeat constructor) ?_)
 rintro p3 -
 simp only [cA, nA]
 refine JL.mv (t0 rfl) <| JL.e (t0 rfl) <| JL.e (t1 rfl) <| JL.as (t1 rfl) <| JL.as (t1 rfl) <| JL.n5 <| JL.mv (t22 rfl) <| JL.rd (Rd.neq (t0 rfl) Ev.c) <| JL.mv (t0 rfl) <| JL.skG rfl (EvB (t0 rfl) (by first | exact decide_eq_true (by omega) | exact decide_eq_false (by omega))) rfl ?_
 refine JL.skG rfl (EvB (t1 rfl) (by first | exact decide_eq_true (by omega) | exact decide_eq_false (by omega))) rfl ?_
 refine JL.skG rfl (EvB (t2 rfl) (by first | exact decide_eq_true (by omega) | exact decide_eq_false (by omega))) rfl ?_
 refine JL.skU rfl (t0 rfl) <| JL.skU rfl (t1 rfl) <| JL.skG rfl (EvB (t5 rfl) (by first | exact decide_eq_true (by omega) | exact decide_eq_false (by omega))) rfl ?_
 refine JL.skG rfl (EvB (t6 rfl) (by first | exact decide_eq_true (by omega) | exact decide_eq_false (by omega))) rfl ?_
 refine JL.skU rfl (t0 rfl) <| JL.skU rfl (t1 rfl) <| JL.skG rfl (EvB (t9 rfl) (by first | exact decide_eq_true (by omega) | exact decide_eq_false (by omega))) rfl ?_
 refine JL.rd (Rd.pickF (EvB (t10 rfl) (by first | exact decide_eq_true (by omega) | exact decide_eq_false (by omega))) Ev.c) ?_
 refine JL.n2 <| J.condF (t0 rfl) <| J.skip <| At.next <| J.seq <| J.live (K := [(15, _), (4, _)]) ⟨(lk14 rfl), (lk35 rfl), trivial⟩ ?_
 intro ρ4
 exact J.region <| JL.mv (t0 rfl) <| JL.rd (Rd.eql (t0 rfl) Ev.c) <| JL.as (t0 rfl) <| JL.nr <| At.r (()) (trivial) (ResV.one rfl (t0 rfl)) rfl
 refine J.region <| JL.rd ((by first | exact Rd.fld0 fld_28_0 (t9 rfl) | exact Rd.fldz fld_28_0 (t9 rfl))) ?_
 refine JL.rd (Rd.ldN Try.isAgg24 (t0 rfl) (by repeat constructor) (by repeat constructor)) ?_
 refine JL.rd ((by first | exact Rd.fld0 fld_28_1 (t11 rfl) | exact Rd.fld fld_28_1 (t11 rfl))) ?_
 refine JL.rd (Rd.ldN Try.isAgg25 (t0 rfl) (by repeat constructor) (by repeat constructor)) ?_
 refine JL.mv (t15 rfl) <| JL.ef (Ef.call (.cons (t3 rfl) (.cons (t1 rfl) (.cons (t0 rfl) .nil))) (tload_us d m W.1 W.2.1 W.2.2.1 W.2.2.2 hwi.pi hwi.live.2.1 (by rw [hwi.live.2.2]; decide) root hlu) (by repeat constructor) ?_)
 rintro p3 -
 simp only [cA, nA]
 refine JL.mv (t0 rfl) <| JL.e (t0 rfl) <| JL.e (t1 rfl) <| JL.as (t1 rfl) <| JL.as (t1 rfl) <| JL.n5 <| JL.mv (t22 rfl) <| JL.rd (Rd.neq (t0 rfl) Ev.c) <| JL.mv (t0 rfl) <| JL.rdG rfl (EvB (t0 rfl) (by first | exact decide_eq_true (by omega) | exact decide_eq_false (by omega))) rfl (Rd.move (t14 rfl)) ?_
 refine JL.rdG rfl (EvB (t1 rfl) (by first | exact decide_eq_true (by omega) | exact decide_eq_false (by omega))) rfl (Rd.neq (t0 rfl) Ev.c) ?_
 refine JL.rdG rfl (EvB (t2 rfl) (by first | exact decide_eq_true (by omega) | exact decide_eq_false (by omega))) rfl (Rd.move (t0 rfl)) ?_
 refine JL.rdG rfl (EvB (t0 rfl) (by first | exact decide_eq_true (by omega) | exact decide_eq_false (by omega))) rfl (Rd.move (t18 rfl)) ?_
 refine JL.rdG rfl (EvB (t1 rfl) (by first | exact decide_eq_true (by omega) | exact decide_eq_false (by omega))) rfl (Rd.eql (t0 rfl) Ev.c) ?_
 refine JL.rdG rfl (EvB (t5 rfl) (by first | exact decide_eq_true (by omega) | exact decide_eq_false (by omega))) rfl (Rd.pickF (EvB (t2 rfl) (by first | exact decide_eq_true (by omega) | exact decide_eq_false (by omega))) (t0 rfl)) ?_
 refine JL.rdG rfl (EvB (t6 rfl) (by first | exact decide_eq_true (by omega) | exact decide_eq_false (by omega))) rfl (Rd.move (t0 rfl)) ?_
 refine JL.rdG rfl (EvB (t0 rfl) (by first | exact decide_eq_true (by omega) | exact decide_eq_false (by omega))) rfl (Rd.move (t22 rfl)) ?_
 refine JL.rdG rfl (EvB (t1 rfl) (by first | exact decide_eq_true (by omega) | exact decide_eq_false (by omega))) rfl (Rd.eql (t0 rfl) Ev.c) ?_
 refine JL.rdG rfl (EvB (t9 rfl) (by first | exact decide_eq_true (by omega) | exact decide_eq_false (by omega))) rfl (Rd.pickF (EvB (t2 rfl) (by first | exact decide_eq_true (by omega) | exact decide_eq_false (by omega))) (t0 rfl)) ?_
 refine JL.rd (Rd.pickT (EvB (t10 rfl) (by first | exact decide_eq_true (by omega) | exact decide_eq_false (by omega))) (t0 rfl)) ?_
 refine JL.n2 <| J.condF (EvB (t0 rfl) (by first | exact decide_eq_true (by omega) | exact decide_eq_false (by omega))) ?_
 refine J.skip <| At.next <| J.seq <| J.live (K := [(15, _), (4, _)]) ⟨(lk14 rfl), (lk35 rfl), trivial⟩ ?_
 intro ρ5
 exact J.region <| JL.mv (t0 rfl) <| JL.rd (Rd.eql (t0 rfl) Ev.c) <| JL.as (t0 rfl) <| JL.nr <| At.r (()) (trivial) (ResV.one rfl (t0 rfl)) rfl
 refine J.region <| JL.rd ((by first | exact Rd.fld0 fld_28_0 (t9 rfl) | exact Rd.fldz fld_28_0 (t9 rfl))) ?_
 refine JL.rd (Rd.ldN Try.isAgg24 (t0 rfl) (by repeat constructor) (by repeat constructor)) ?_
 refine JL.rd ((by first | exact Rd.fld0 fld_28_1 (t11 rfl) | exact Rd.fld fld_28_1 (t11 rfl))) ?_
 refine JL.rd (Rd.ldN Try.isAgg25 (t0 rfl) (by repeat constructor) (by repeat constructor)) ?_
 refine JL.mv (t15 rfl) <| JL.ef (Ef.call (.cons (t3 rfl) (.cons (t1 rfl) (.cons (t0 rfl) .nil))) (tload_no d m 3 W.2.1 root hr1 hr2 hlc hlu) (by repeat constructor) ?_)
 rintro - -
 simp only [cA, nA]
 refine JL.mv (t0 rfl) <| JL.e (t0 rfl) <| JL.e (t1 rfl) <| JL.as (t1 rfl) <| JL.as (t1 rfl) <| JL.n5 <| JL.mv (t22 rfl) <| JL.rd (Rd.neq (t0 rfl) Ev.c) <| JL.mv (t0 rfl) <| JL.rdG rfl (EvB (t0 rfl) (by first | exact decide_eq_true (by omega) | exact decide_eq_false (by omega))) rfl (Rd.move (t14 rfl)) ?_
 refine JL.rdG rfl (EvB (t1 rfl) (by first | exact decide_eq_true (by omega) | exact decide_eq_false (by omega))) rfl (Rd.neq (t0 rfl) Ev.c) ?_
 refine JL.rdG rfl (EvB (t2 rfl) (by first | exact decide_eq_true (by omega) | exact decide_eq_false (by omega))) rfl (Rd.move (t0 rfl)) ?_
 refine JL.skG rfl (EvB (t0 rfl) (by first | exact decide_eq_true (by omega) | exact decide_eq_false (by omega))) rfl ?_
 refine JL.skG rfl (EvB (t1 rfl) (by first | exact decide_eq_true (by omega) | exact decide_eq_false (by omega))) rfl ?_
 refine JL.rdG rfl (EvB (t5 rfl) (by first | exact decide_eq_true (by omega) | exact decide_eq_false (by omega))) rfl (Rd.pickT (EvB (t2 rfl) (by first | exact decide_eq_true (by omega) | exact decide_eq_false (by omega))) Ev.c) ?_
 refine JL.rdG rfl (EvB (t6 rfl) (by first | exact decide_eq_true (by omega) | exact decide_eq_false (by omega))) rfl (Rd.move (t0 rfl)) ?_
 refine JL.skG rfl (t0 rfl) rfl <| JL.skG rfl (t1 rfl) rfl <| JL.rdG rfl (EvB (t9 rfl) (by first | exact decide_eq_true (by omega) | exact decide_eq_false (by omega))) rfl (Rd.pickT (t2 rfl) Ev.c) ?_
 refine JL.rd (Rd.pickT (EvB (t10 rfl) (by first | exact decide_eq_true (by omega) | exact decide_eq_false (by omega))) (t0 rfl)) ?_
 refine JL.n2 <| J.condT (t0 rfl) <| J.seq <| J.live (K := [(15, _), (14, _), (4, _)]) ⟨(lk14 rfl), (lk15 rfl), (lk35 rfl), trivial⟩ ?_
 intro ρ6
 exact J.region <| JL.mv (t1 rfl) <| JL.rd (Rd.eqlNil (t0 rfl) Try.runUnderlying26) <| JL.mv (t0 rfl) <| JL.rdG rfl (EvB (t0 rfl) rfl) rfl (Rd.move (t3 rfl)) <| JL.rdG rfl (EvB (t1 rfl) rfl) rfl (Rd.eql (t0 rfl) Ev.c) <| JL.rd (Rd.pickT (EvB (t2 rfl) rfl) (t0 rfl)) <| JL.as (t0 rfl) <| JL.nr <| At.nextR <| At.r (()) (trivial) (ResV.one rfl (t0 rfl)) rfl
 refine J.region <| JL.rd ((by first | exact Rd.fld0 fld_28_0 (t9 rfl) | exact Rd.fldz fld_28_0 (t9 rfl))) ?_
 refine JL.rd (Rd.ldN Try.isAgg24 (t0 rfl) (by repeat constructor) (by repeat constructor)) ?_
 refine JL.rd ((by first | exact Rd.fld0 fld_28_1 (t11 rfl) | exact Rd.fld fld_28_1 (t11 rfl))) ?_
 refine JL.rd (Rd.ldN Try.isAgg25 (t0 rfl) (by repeat constructor) (by repeat constructor)) ?_
 refine JL.mv (t15 rfl) <| JL.ef (Ef.call (.cons (t3 rfl) (.cons (t1 rfl) (.cons (t0 rfl) .nil))) (tload_no d m 3 W.2.1 root hr1 hr2 hlc hlu) (by repeat constructor) ?_)
 rintro - -
 simp only [cA, nA]
 refine JL.mv (t0 rfl) <| JL.e (t0 rfl) <| JL.e (t1 rfl) <| JL.as (t1 rfl) <| JL.as (t1 rfl) <| JL.n5 <| JL.mv (t22 rfl) <| JL.rd (Rd.neq (t0 rfl) Ev.c) <| JL.mv (t0 rfl) <| JL.rdG rfl (EvB (t0 rfl) (by first | exact decide_eq_true (by omega) | exact decide_eq_false (by omega))) rfl (Rd.move (t14 rfl)) ?_
 refine JL.rdG rfl (EvB (t1 rfl) (by first | exact decide_eq_true (by omega) | exact decide_eq_false (by omega))) rfl (Rd.neq (t0 rfl) Ev.c) ?_
 refine JL.rdG rfl (EvB (t2 rfl) (by first | exact decide_eq_true (by omega) | exact decide_eq_false (by omega))) rfl (Rd.move (t0 rfl)) ?_
 refine JL.rdG rfl (EvB (t0 rfl) (by first | exact decide_eq_true (by omega) | exact decide_eq_false (by omega))) rfl (Rd.move (t18 rfl)) ?_
 refine JL.rdG rfl (EvB (t1 rfl) (by first | exact decide_eq_true (by omega) | exact decide_eq_false (by omega))) rfl (Rd.eql (t0 rfl) Ev.c) ?_
 refine JL.rdG rfl (EvB (t5 rfl) (by first | exact decide_eq_true (by omega) | exact decide_eq_false (by omega))) rfl (Rd.pickF (EvB (t2 rfl) (by first | exact decide_eq_true (by omega) | exact decide_eq_false (by omega))) (t0 rfl)) ?_
 refine JL.rdG rfl (EvB (t6 rfl) (by first | exact decide_eq_true (by omega) | exact decide_eq_false (by omega))) rfl (Rd.move (t0 rfl)) ?_
 refine JL.skG rfl (EvB (t0 rfl) (by first | exact decide_eq_true (by omega) | exact decide_eq_false (by omega))) rfl ?_
 refine JL.skG rfl (EvB (t1 rfl) (by first | exact decide_eq_true (by omega) | exact decide_eq_false (by omega))) rfl ?_
 refine JL.rdG rfl (EvB (t9 rfl) (by first | exact decide_eq_true (by omega) | exact decide_eq_false (by omega))) rfl (Rd.pickT (EvB (t2 rfl) (by first | exact decide_eq_true (by omega) | exact decide_eq_false (by omega))) Ev.c) ?_
 refine JL.rd (Rd.pickT (EvB (t10 rfl) (by first | exact decide_eq_true (by omega) | exact decide_eq_false (by omega))) (t0 rfl)) ?_
 refine JL.n2 <| J.condT (t0 rfl) <| J.seq <| J.live (K := [(15, _), (14, _), (4, _)]) ⟨(lk14 rfl), (lk15 rfl), (lk35 rfl), trivial⟩ ?_
 intro ρ7
 exact J.region <| JL.mv (t1 rfl) <| JL.rd (Rd.eqlNil (t0 rfl) Try.runUnderlying26) <| JL.mv (t0 rfl) <| JL.rdG rfl (EvB (t0 rfl) rfl) rfl (Rd.move (t3 rfl)) <| JL.rdG rfl (EvB (t1 rfl) rfl) rfl (Rd.eql (t0 rfl) Ev.c) <| JL.rd (Rd.pickT (EvB (t2 rfl) rfl) (t0 rfl)) <| JL.as (t0 rfl) <| JL.nr <| At.nextR <| At.r (()) (trivial) (ResV.one rfl (t0 rfl)) rfl
 refine J.region <| JL.rd ((by first | exact Rd.fld0 fld_28_0 (t9 rfl) | exact Rd.fldz fld_28_0 (t9 rfl))) ?_
 refine JL.rd (Rd.ldN Try.isAgg24 (t0 rfl) (by repeat constructor) (by repeat constructor)) ?_
 refine JL.rd ((by first | exact Rd.fld0 fld_28_1 (t11 rfl) | exact Rd.fld fld_28_1 (t11 rfl))) ?_
 refine JL.rd (Rd.ldN Try.isAgg25 (t0 rfl) (by repeat constructor) (by repeat constructor)) ?_
 refine JL.mv (t15 rfl) <| JL.ef (Ef.call (.cons (t3 rfl) (.cons (t1 rfl) (.cons (t0 rfl) .nil))) (tload_no d m 3 W.2.1 root hr1 hr2 hlc hlu) (by repeat constructor) ?_)
 rintro - -
 simp only [cA, nA]
 refine JL.mv (t0 rfl) <| JL.e (t0 rfl) <| JL.e (t1 rfl) <| JL.as (t1 rfl) <| JL.as (t1 rfl) <| JL.n5 <| JL.mv (t22 rfl) <| JL.rd (Rd.neq (t0 rfl) Ev.c) <| JL.mv (t0 rfl) <| JL.rdG rfl (EvB (t0 rfl) (by first | exact decide_eq_true (by omega) | exact decide_eq_false (by omega))) rfl (Rd.move (t14 rfl)) ?_
 refine JL.rdG rfl (EvB (t1 rfl) (by first | exact decide_eq_true (by omega) | exact decide_eq_false (by omega))) rfl (Rd.neq (t0 rfl) Ev.c) ?_
 refine JL.rdG rfl (EvB (t2 rfl) (by first | exact decide_eq_true (by omega) | exact decide_eq_false (by omega))) rfl (Rd.move (t0 rfl)) ?_
 refine JL.rdG rfl (EvB (t0 rfl) (by first | exact decide_eq_true (by omega) | exact decide_eq_false (by omega))) rfl (Rd.move (t18 rfl)) ?_
 refine JL.rdG rfl (EvB (t1 rfl) (by first | exact decide_eq_true (by omega) | exact decide_eq_false (by omega))) rfl (Rd.eql (t0 rfl) Ev.c) ?_
 refine JL.rdG rfl (EvB (t5 rfl) (by first | exact decide_eq_true (by omega) | exact decide_eq_false (by omega))) rfl (Rd.pickF (EvB (t2 rfl) (by first | exact decide_eq_true (by omega) | exact decide_eq_false (by omega))) (t0 rfl)) ?_
 refine JL.rdG rfl (EvB (t6 rfl) (by first | exact decide_eq_true (by omega) | exact decide_eq_false (by omega))) rfl (Rd.move (t0 rfl)) ?_
 refine JL.rdG rfl (EvB (t0 rfl) (by first | exact decide_eq_true (by omega) | exact decide_eq_false (by omega))) rfl (Rd.move (t22 rfl)) ?_
 refine JL.rdG rfl (EvB (t1 rfl) (by first | exact decide_eq_true (by omega) | exact decide_eq_false (by omega))) rfl (Rd.eql (t0 rfl) Ev.c) ?_
 refine JL.rdG rfl (EvB (t9 rfl) (by first | exact decide_eq_true (by omega) | exact decide_eq_false (by omega))) rfl (Rd.pickF (EvB (t2 rfl) (by first | exact decide_eq_true (by omega) | exact decide_eq_false (by omega))) (t0 rfl)) ?_
 refine JL.rd (Rd.pickT (EvB (t10 rfl) (by first | exact decide_eq_true (by omega) | exact decide_eq_false (by omega))) (t0 rfl)) ?_
 refine JL.n2 <| J.condT (EvB (t0 rfl) (by first | exact decide_eq_true (by omega) | exact decide_eq_false (by omega))) ?_
 refine J.seq <| J.live (K := [(15, _), (14, _), (4, _)]) ⟨(lk14 rfl), (lk15 rfl), (lk35 rfl), trivial⟩ ?_
 intro ρ8
 exact J.region <| JL.mv (t1 rfl) <| JL.rd (Rd.eqlNil (t0 rfl) Try.runUnderlying26) <| JL.mv (t0 rfl) <| JL.rdG rfl (EvB (t0 rfl) rfl) rfl (Rd.move (t3 rfl)) <| JL.rdG rfl (EvB (t1 rfl) rfl) rfl (Rd.eql (t0 rfl) Ev.c) <| JL.rd (Rd.pickT (EvB (t2 rfl) rfl) (t0 rfl)) <| JL.as (t0 rfl) <| JL.nr <| At.nextR <| At.r (()) (trivial) (ResV.one rfl (t0 rfl)) rfl
end Go.Proofs.Ytbhladkbnleeoaa

namespace Go.Proofs.Ytbhladkbnleeoaa
open Go.ChangeShapes Go.WideShapes Go.ChangeAt Go.RowKit

theorem own : ownKnob Try.prog.godebug = none := by kernel_rfl

theorem laid_ : laidOutB Try.prog = true := by kernel_rfl
theorem u8_wf {a : Int} (h : (Lit.int .u8 a).wf = true) : ∃ c : UInt8, a = (c.toNat : Int) := by
  have h2 : 0 ≤ a ∧ a ≤ 255 := by
    have := h
    have m0 : IntKind.u8.min = 0 := by decide
    have m1 : IntKind.u8.max = 255 := by decide
    simp [Lit.wf, m0, m1] at this
    omega
  refine ⟨UInt8.ofNat a.toNat, ?_⟩
  rw [UInt8.toNat_ofNat']
  omega

end Go.Proofs.Ytbhladkbnleeoaa

namespace Go.Proofs.Ytbhladkbnleeoaa
open Go.ChangeShapes Go.WideShapes Go.ChangeAt Go.RowKit

/-- All that was there, to be read only. -/
def roOld (W : World) : Frag := fun b => (W.heap[b]?).map fun o => (false, o)
theorem roOld_sub (W : World) : Sub (roOld W) W := by
  intro b f o h
  unfold roOld at h
  cases e : W.heap[b]? with
  | none => rw [e] at h; cases h
  | some o' => rw [e] at h; cases h; rfl
theorem roOld_own {W : World} {b : Nat} : ¬ Own (roOld W) b := by
  rintro ⟨o, h⟩
  unfold roOld at h
  cases e : W.heap[b]? with
  | none => rw [e] at h; cases h
  | some o' => rw [e] at h; cases h
theorem roOld_cmp (W : World) : Cmp (roOld W) (roOld W) := by
  intro b
  unfold roOld
  cases e : W.heap[b]? with
  | none => exact .inl rfl
  | some o => exact .inr (.inr ⟨rfl, o, rfl⟩)
theorem roOld_jn (W : World) : jn (roOld W) (roOld W) = roOld W := by
  funext b
  unfold jn roOld
  cases W.heap[b]? <;> rfl
/-- What is only read may be had side by side. -/
theorem Stars.old {W : World} {A : Assn} {l : List Assn} (a : A (roOld W)) (s : Stars l (roOld W)) : Stars (A :: l) (roOld W) := ⟨roOld W, roOld W, a, s, roOld_cmp W, (roOld_jn W).symm⟩
theorem Fr.old {W W' : World} {h' : Frag} (f : Fr (roOld W) W h' W') : W.keptBut W' (fun _ => False) := by
  have r := World.keptBut_refl W (fun _ => False)
  exact ⟨f.os.trans r.1, f.output.trans r.2.1, fun i hi => by
    have e := f.keep i hi roOld_own
    rw [e]
    exact r.2.2 i hi⟩
theorem Fr.below {W W' : World} {h' : Frag} (f : Fr (roOld W) W h' W') : Below W.heap.size W W' := ⟨f.os, f.tape, f.output, f.size, fun k hk => f.keep k hk roOld_own⟩

section
variable {H : Type} {enc : TypeId × Value → H} {P : Program} {W : World}

/-- A slice's elements. -/
theorem open_rows {t e : TypeId} {s fuel : Nat} {cs : List Value} {x : DataW H × List MemPlace} (ht : P.underlying t = some (.slice e)) (hs : P.cellsOf e = s) (hs0 : 0 < s) (h : DataW.trod enc P W 0 (fun _ => true) true fuel t cs = some x) :
    ∃ (a : Option Addr) (n cap : Nat) (xs : List (List Value)), cs = [.slice a n cap] ∧ xs.length = n ∧ n ≤ cap ∧ cap ≤ maxLen ∧ rowR a s xs (roOld W) ∧ ∃ m, ∀ u ∈ xs, ∃ y, DataW.trod enc P W 0 (fun _ => true) true m e u = some y := by
  subst hs
  rcases Deep.open_slice ht h with ⟨rfl, _⟩ | ⟨a, len, cap, m, n, D, Pl, rfl, _, hl, hm, hmm, _, hel⟩
  · exact ⟨none, 0, 0, [], rfl, rfl, Nat.le_refl _, Nat.zero_le _, by unfold rowR; exact ⟨(by intro x hx; cases hx), .inl rfl⟩, 0, fun u hu => by cases hu⟩
  · have hmc : m = cap := by rw [hmm]; rfl
    obtain ⟨f, hf⟩ := Deep.choose_lt (n := len) (p := fun i (cs' : List Value) => W.cells? 0 (a.add (i * P.cellsOf e)) (P.cellsOf e) = some cs' ∧ DataW.trod enc P W 0 (fun _ => true) true n e cs' = some (D i, Pl i)) fun i hi => hel i (by omega)
    have hcell : ∀ i, i < len → ∀ j, j < P.cellsOf e → W.cell? (a.add (i * P.cellsOf e + j)) = (f i)[j]? := by
      intro i hi j hj
      have := (World.cells?_some (hf i hi).1).2.2 j hj
      rw [← this, Deep.add_add]
    have hlen : ∀ i, i < len → (f i).length = P.cellsOf e := fun i hi => (World.cells?_some (hf i hi).1).2.1
    have hflat : Flat (P.cellsOf e) ((List.range len).map f) := by
      intro x hx
      obtain ⟨i, hi, rfl⟩ := List.mem_map.1 hx
      exact hlen i (List.mem_range.1 hi)
    refine ⟨some a, len, cap, (List.range len).map f, rfl, by simp, hl, hm, ?_, n, ?_⟩
    · unfold rowR
      refine ⟨hflat, ?_⟩
      rcases Nat.eq_zero_or_pos len with h0 | h0
      · subst h0; exact .inl rfl
      · right
        have h00 := hcell 0 h0 0 hs0
        have hsome : ∃ v, W.cell? a = some v := by
          have : (f 0)[0]? = some ((f 0)[0]'(by rw [hlen 0 h0]; exact hs0)) := List.getElem?_eq_getElem _
          rw [this] at h00
          simp only [Nat.zero_mul, Nat.add_zero] at h00
          exact ⟨_, by simpa [Addr.add] using h00⟩
        obtain ⟨v, hv⟩ := hsome
        obtain ⟨C, te, fr, hb, hsp⟩ : ∃ C te fr, W.heap[a.block]? = some (.cells C te fr) ∧ a.spot = none := by
          unfold World.cell? at hv
          split at hv
          · rename_i c te fr hh
            refine ⟨c, te, fr, hh, ?_⟩
            split at hv
            · cases hv
            · rename_i hns
              cases hsp : a.spot with
              | none => rfl
              | some z => rw [hsp] at hns; exact absurd rfl hns
          · cases hv
        obtain ⟨b, off, sp⟩ := a
        dsimp only at hsp hb
        subst hsp
        refine ⟨b, off, C.toList, te, fr, rfl, by unfold roOld; rw [hb]; simp, ?_⟩
        apply List.ext_getElem?
        intro k
        by_cases hk : k < ((List.range len).map f).length * P.cellsOf e
        · rw [List.getElem?_take_of_lt hk, List.getElem?_drop]
          have hk' : k < len * P.cellsOf e := by simpa using hk
          have hq : k / P.cellsOf e < len := Nat.div_lt_of_lt_mul (by rw [Nat.mul_comm]; exact hk')
          have hr : k % P.cellsOf e < P.cellsOf e := Nat.mod_lt _ hs0
          have hkd : k = k / P.cellsOf e * P.cellsOf e + k % P.cellsOf e := by rw [Nat.mul_comm]; exact (Nat.div_add_mod k _).symm
          have hg : ((List.range len).map f)[k / P.cellsOf e]? = some (f (k / P.cellsOf e)) := by simp [hq]
          have h1 := hflat.get hg
          have h2 := hcell _ hq _ hr
          rw [← hkd, add_off, World.cell?, hb] at h2
          simp only [Option.isSome_none, Bool.false_eq_true, if_false] at h2
          rw [Array.getElem?_toList, h2, ← h1, List.getElem?_take_of_lt hr, List.getElem?_drop, ← hkd]
        · rw [List.getElem?_eq_none (by simp at hk ⊢; omega), List.getElem?_eq_none (by rw [hflat.length]; omega)]
    · intro u hu
      obtain ⟨i, hi, rfl⟩ := List.mem_map.1 hu
      exact ⟨_, (hf i (List.mem_range.1 hi)).2⟩
end

end Go.Proofs.Ytbhladkbnleeoaa

namespace Go.Proofs.Ytbhladkbnleeoaa
open Go.ChangeShapes Go.WideShapes Go.ChangeAt Go.RowKit

theorem i64_wf {a : Int} (h : (Lit.int .i64 a).wf = true) : -9223372036854775808 ≤ a ∧ a ≤ 9223372036854775807 := by
  have m0 : IntKind.i64.min = -9223372036854775808 := by decide
  have m1 : IntKind.i64.max = 9223372036854775807 := by decide
  simp [Lit.wf, m0, m1] at h
  omega
theorem u16_wf {a : Int} (h : (Lit.int .u16 a).wf = true) : ∃ n : Nat, a = (n : Int) ∧ n < 65536 := by
  have m0 : IntKind.u16.min = 0 := by decide
  have m1 : IntKind.u16.max = 65535 := by decide
  simp [Lit.wf, m0, m1] at h
  exact ⟨a.toNat, by omega, by omega⟩
theorem str_bytes (s : ByteArray) : Value.string s = str s.data.toList := by unfold str; simp
section
variable {H : Type} {enc : TypeId × Value → H} {W : World}
set_option maxRecDepth 100000 in
theorem open_op {fuel : Nat} {u : List Value} {x : DataW H × List MemPlace} (h : DataW.trod enc Try.prog W 0 (fun _ => true) true fuel 47 u = some x) : ∃ o : OpR, u = opR o ∧ o.ok := by
  obtain ⟨ys, n, _, _, hl, hlen, hf⟩ := DataW.trod_struct Try.underlying47 h
  have hl5 : u.length = 7 := hl.trans (by kernel_rfl)
  have c1 : Try.prog.cellsOf 5 = 1 := by kernel_rfl
  have c2 : Try.prog.cellsOf 3 = 1 := by kernel_rfl
  have c3 : Try.prog.cellsOf 9 = 1 := by kernel_rfl
  have c4 : Try.prog.cellsOf 45 = 1 := by kernel_rfl
  match u, hl5 with
  | [u0, u1, u2, u3, u4, u5, u6], _ =>
    match ys, hlen with
    | [y0, y1, y2, y3, y4, y5, y6], _ =>
      have f0 : DataW.trod enc Try.prog W 0 (fun _ => true) true n 5 (([u0, u1, u2, u3, u4, u5, u6].drop 0).take (Try.prog.cellsOf 5)) = some y0 := hf 0 _ rfl
      rw [c1] at f0
      have f1 : DataW.trod enc Try.prog W 0 (fun _ => true) true n 9 (([u0, u1, u2, u3, u4, u5, u6].drop 1).take (Try.prog.cellsOf 9)) = some y1 := hf 1 _ rfl
      rw [c3] at f1
      have f2 : DataW.trod enc Try.prog W 0 (fun _ => true) true n 9 (([u0, u1, u2, u3, u4, u5, u6].drop 2).take (Try.prog.cellsOf 9)) = some y2 := hf 2 _ rfl
      rw [c3] at f2
      have f3 : DataW.trod enc Try.prog W 0 (fun _ => true) true n 45 (([u0, u1, u2, u3, u4, u5, u6].drop 3).take (Try.prog.cellsOf 45)) = some y3 := hf 3 _ rfl
      rw [c4] at f3
      have f4 : DataW.trod enc Try.prog W 0 (fun _ => true) true n 45 (([u0, u1, u2, u3, u4, u5, u6].drop 4).take (Try.prog.cellsOf 45)) = some y4 := hf 4 _ rfl
      rw [c4] at f4
      have f5 : DataW.trod enc Try.prog W 0 (fun _ => true) true n 9 (([u0, u1, u2, u3, u4, u5, u6].drop 5).take (Try.prog.cellsOf 9)) = some y5 := hf 5 _ rfl
      rw [c3] at f5
      have f6 : DataW.trod enc Try.prog W 0 (fun _ => true) true n 3 (([u0, u1, u2, u3, u4, u5, u6].drop 6).take (Try.prog.cellsOf 3)) = some y6 := hf 6 _ rfl
      rw [c2] at f6
      obtain ⟨z0, e0, _, w0⟩ := DataW.trod_int Try.underlying5 f0
      replace e0 : [u0] = _ := e0
      obtain ⟨z1, e1, _, w1⟩ := DataW.trod_string Try.underlying9 f1
      replace e1 : [u1] = _ := e1
      obtain ⟨z2, e2, _, w2⟩ := DataW.trod_string Try.underlying9 f2
      replace e2 : [u2] = _ := e2
      obtain ⟨z3, e3, _, w3⟩ := DataW.trod_int Try.underlying45 f3
      replace e3 : [u3] = _ := e3
      obtain ⟨z4, e4, _, w4⟩ := DataW.trod_int Try.underlying45 f4
      replace e4 : [u4] = _ := e4
      obtain ⟨z5, e5, _, w5⟩ := DataW.trod_string Try.underlying9 f5
      replace e5 : [u5] = _ := e5
      obtain ⟨z6, e6, _, w6⟩ := DataW.trod_int Try.underlying3 f6
      replace e6 : [u6] = _ := e6
      obtain ⟨k, rfl⟩ := u8_wf w0
      obtain ⟨n3, rfl, b3⟩ := u16_wf w3
      obtain ⟨n4, rfl, b4⟩ := u16_wf w4
      simp only [List.cons.injEq, and_true] at e0 e1 e2 e3 e4 e5 e6
      subst e0 e1 e2 e3 e4 e5 e6
      have hb := i64_wf w6
      refine ⟨⟨k, z1.data.toList, z2.data.toList, n3, n4, z5.data.toList, z6⟩, ?_, b3, b4, hb.1, hb.2⟩
      unfold opR
      rw [str_bytes, str_bytes, str_bytes]
theorem ops_of : ∀ (xs : List (List Value)), (∀ u ∈ xs, ∃ o : OpR, u = opR o ∧ o.ok) → ∃ l : List OpR, xs = l.map opR ∧ ∀ o ∈ l, o.ok := by
  intro xs
  induction xs with
  | nil => intro _; exact ⟨[], rfl, fun o h => by cases h⟩
  | cons u xs ih =>
    intro h
    obtain ⟨o, rfl, hok⟩ := h u (List.mem_cons_self ..)
    obtain ⟨l, rfl, hl⟩ := ih fun v hv => h v (List.mem_cons_of_mem _ hv)
    refine ⟨o :: l, rfl, fun p hp => ?_⟩
    rcases List.mem_cons.1 hp with rfl | hp
    · exact hok
    · exact hl p hp
theorem open_ops {fuel : Nat} {cs : List Value} {x : DataW H × List MemPlace} (h : DataW.trod enc Try.prog W 0 (fun _ => true) true fuel 22 cs = some x) :
    ∃ (a : Option Addr) (cap : Nat) (l : List OpR), cs = [.slice a l.length cap] ∧ l.length ≤ cap ∧ cap ≤ maxLen ∧ rowR a 7 (l.map opR) (roOld W) ∧ ∀ o ∈ l, o.ok := by
  obtain ⟨a, n, cap, xs, rfl, hn, h1, h2, hr, m, hx⟩ := open_rows (s := 7) Try.underlying22 (by kernel_rfl) (by decide) h
  obtain ⟨l, rfl, hl⟩ := ops_of xs fun u hu => by
    obtain ⟨y, hy⟩ := hx u hu
    exact open_op hy
  rw [List.length_map] at hn
  subst hn
  exact ⟨a, cap, l, rfl, h1, h2, hr, hl⟩
end

/-- What an argument's value is whose cells are one slice. -/
theorem slice_value {P : Program} {w : World} {r : Reach} {base : Nat} {t e : TypeId} {v : Value} {a : Option Addr} {n cap : Nat} (ht : P.underlying t = some (.slice e)) (h : Value.okWide P w r base t v) (hc : v.cells.toList = [.slice a n cap]) : v = .slice a n cap := by
  obtain ⟨a', n', c', rfl⟩ := okWide_slice ht h
  simpa [Value.cells] using hc
end Go.Proofs.Ytbhladkbnleeoaa

namespace Go.Proofs.Ytbhladkbnleeoaa
set_option maxRecDepth 100000
attribute [local irreducible] J JL At Rd Ef DNew DCar DRun Then RetQ LoopQ

set_option maxHeartbeats 1000000 in
theorem committed_any (a a2 : Option Addr) (cap cap2 : Nat) (l l2 : List OpR) (hl : l.length ≤ 9223372036854775807) (_ : l2.length ≤ 9223372036854775807) (hok : ∀ o ∈ l, o.ok) (hok2 : ∀ o ∈ l2, o.ok) :
    Fn Try.prog 6 [.slice a l.length cap, .slice a2 l2.length cap2] [rowR a 7 (l.map opR), rowR a2 7 (l2.map opR)] (X := Unit) (fun _ => True) (fun _ => .bool true) (fun _ => []) := by
 refine Fn.mk' (n := 108) (l := [(0, .slice a l.length cap), (1, .slice a2 l2.length cap2)]) (fn := Try.f6) Try.func6 (by kernel_rfl) rfl rfl (by simp) rfl ?_
 intro h0 w0
 refine J.sr <| JL.as Ev.c <| JL.n5 <| JL.ef (Ef.call .nil (known_any) (by repeat constructor) ?_)
 rintro - -
 simp only [nA]
 refine JL.rd (Rd.not (EvB (t0 rfl) rfl)) <| JL.n2 <| J.condF (EvB (t0 rfl) rfl) <| J.k4 <| JL.mv (t3 rfl) <| JL.ef (Ef.call (.cons (t0 rfl) .nil) (play_any a cap l hl hok) (by repeat constructor) ?_)
 rintro ⟨⟨d, m, t⟩, ⟨ra, rc⟩, W⟩ ⟨hwi, hrc⟩
 dsimp only at hwi hrc
 have hrows := hwi.rows
 obtain ⟨fl1, _⟩ := flush_live hwi.live.1 hwi.live.2.1
 have hopw := hwi.ops
 simp only [cA, nA]
 refine JL.mv (t0 rfl) <| JL.e (t0 rfl) <| JL.e (t1 rfl) <| JL.e (t2 rfl) <| JL.ef (Ef.alloc Try.zeroValue28 rfl ?_)
 intro b1
 refine JL.ef0 (Ef.stB Try.sizeOf28 (t0 rfl) (t3 rfl) (by repeat constructor) (by repeat constructor) (by first | rfl | assumption | simp_all) (by first | rfl | assumption | simp_all) (by first | exact bv_one _ | exact cons_one rfl (bv_one _) | (simp [Value.oneCell']; done) | (simp [Value.oneCell', str]; done)) (by decide) ?_)
 refine JL.as (t2 rfl) <| JL.as (t2 rfl) <| JL.n5 <| JL.mv (t0 rfl) <| JL.rd (Rd.not (EvB (t0 rfl) rfl)) <| JL.mv (t0 rfl) <| JL.rdG rfl (EvB (t0 rfl) rfl) rfl ((by first | exact Rd.fld0 fld_28_0 (t5 rfl) | exact Rd.fldz fld_28_0 (t5 rfl))) ?_
 refine JL.rdG rfl (EvB (t1 rfl) rfl) rfl (Rd.ldN Try.isAgg24 (t0 rfl) (by repeat constructor) (by repeat constructor)) ?_
 refine JL.efG rfl (EvB (t2 rfl) rfl) rfl (Ef.call (.cons (t0 rfl) .nil) (flush_any d W.1 (by omega)) (by repeat constructor) ?_)
 rintro - -
 rw [fl1]
 simp only [cA, nA]
 refine JL.rdG rfl (EvB (t3 rfl) rfl) rfl (Rd.neq (t0 rfl) Ev.c) <| JL.rd (Rd.pickF (EvB (t4 rfl) rfl) (t0 rfl)) <| JL.mv (t0 rfl) <| JL.rdG rfl (EvB (t0 rfl) rfl) rfl ((by first | exact Rd.fld0 fld_28_1 (t11 rfl) | exact Rd.fld fld_28_1 (t11 rfl))) ?_
 refine JL.rdG rfl (EvB (t1 rfl) rfl) rfl (Rd.ldN Try.isAgg25 (t0 rfl) (by repeat constructor) (by repeat constructor)) ?_
 refine JL.efG rfl (EvB (t2 rfl) rfl) rfl (Ef.call (.cons (t0 rfl) .nil) (commit_any m 3 W.2.1 hwi.pi.le4) (by repeat constructor) ?_)
 rintro - -
 simp only [cA, nA]
 refine JL.rdG rfl (EvB (t3 rfl) rfl) rfl (Rd.neq (t0 rfl) Ev.c) <| JL.rd (Rd.pickF (EvB (t4 rfl) rfl) (t0 rfl)) <| JL.n2 <| J.condF (EvB (t0 rfl) rfl) <| J.skip <| At.next <| J.seq ?_
 have hV := com_wi hwi
 have hcr := com_ci hwi
 obtain ⟨V, hVe⟩ : ∃ V, V = comW W := ⟨_, rfl⟩
 rw [← hVe] at hV hcr
 have hct : V.2.2.2 = V.2.2.1 := by rw [hVe]; rfl
 rw [show flushD W.1 = V.1 by rw [hVe]; rfl, show List.map (fun c => [0, 1, 1, 0].getD c.toNat 0) W.2.1 = V.2.1 by rw [hVe]; rfl, show W.2.2.1 = V.2.2.1 by rw [hVe]; rfl]
 rw [show W.2.2.1 = V.2.2.1 by rw [hVe]; rfl] at hrc
 have hVr := hV.rows
 have hVl := hV.len
 clear hrows
 have hil := inL_len V.2.1 [1, 2]
 refine J.region <| JL.rd ((by first | exact Rd.fld0 fld_28_2 (t16 rfl) | exact Rd.fld fld_28_2 (t16 rfl))) ?_
 refine JL.rd (Rd.ldN Try.isAgg26 (t0 rfl) (by repeat constructor) (by repeat constructor)) ?_
 refine JL.ef (Ef.call (.cons (t0 rfl) .nil) (root_any t d m (rootI V.2.2.1)) (by repeat constructor) ?_)
 rintro - -
 simp only [cA, nA]
 refine JL.as (t0 rfl) <| JL.ns <| J.live (K := [(8, _), (7, _), (6, _), (5, _), (4, _), (1, _)]) ⟨lk0, (lk18 rfl), (lk19 rfl), (lk20 rfl), (lk29 rfl), (lk31 rfl), trivial⟩ ?_
 intro ρ2
 refine J.region <| JL.rd ((by first | exact Rd.fld0 fld_28_1 (t3 rfl) | exact Rd.fld fld_28_1 (t3 rfl))) ?_
 refine JL.rd (Rd.ldN Try.isAgg25 (t0 rfl) (by repeat constructor) (by repeat constructor)) ?_
 refine JL.ef (Ef.call (.cons (t0 rfl) .nil) (mused_any m 3 V.2.1 (by omega)) (by repeat constructor) ?_)
 rintro ⟨ua, uc⟩ -
 simp only [cA, nA]
 refine JL.as (t0 rfl) <| JL.ns <| J.dup (a := ra) (xs := (entR V.2.2.1).map itc) (by repeat constructor) ?_
 refine J.region <| JL.mv (t6 rfl) <| JL.as (t0 rfl) <| JL.n5 <| JL.as Ev.c <| JL.nb <| J.loop (X := Nat × (Option Addr × Nat) × Ws) (fun (x : Nat × (Option Addr × Nat) × Ws) => [(11, .int .i64 (x.1 : Int)), (10, .slice x.2.1.1 (entR x.2.2.2.2.1).length x.2.1.2), (7, .bool true)]) (K := [(9, _), (8, _), (6, _), (5, _), (4, _), (1, _)]) (fun x => [pts b1 (.cells [.pointer (some ⟨d, 0, none⟩), .pointer (some ⟨m, 0, none⟩), .pointer (some ⟨t, 0, none⟩)].toArray 28), pts t (.cells [.pointer (some ⟨d, 0, none⟩), .pointer (some ⟨m, 0, none⟩), .int .i64 (rootI x.2.2.2.2.1)].toArray 77), dk d x.2.2.1, bm m 3 x.2.2.2.1, rowR x.2.1.1 2 ((entR x.2.2.2.2.1).map itc), rowR ra 2 ((entR V.2.2.1).map itc), rowR a2 7 (l2.map opR), row ua uc 3 1 (inV 3 (inL V.2.1 [1, 2]))]) (fun x => x.1 ≤ l2.length ∧ x.1 ≤ 40 ∧ WI 300 (12041 + 301 * x.1) (40 + x.1) 40 x.2.2 ∧ (entR x.2.2.2.2.1).length ≤ x.2.1.2 ∧ x.2.2.2.2.2 = V.2.2.1) (fun x => 40 - x.1) ((0, (ra, rc), V)) ?_ ⟨lk0.trans (by first | (rfl; done) | with_reducible rfl | (congr 1; omega) | (simp; done) | (simp [*]; done)), (lk1 rfl).trans (by first | (rfl; done) | with_reducible rfl | (congr 1; omega) | (simp; done) | (simp [*]; done)), (lk8 rfl).trans (by first | (rfl; done) | with_reducible rfl | (congr 1; omega) | (simp; done) | (simp [*]; done)), trivial⟩ ⟨(lk3 rfl), (lk7 rfl), (lk9 rfl), (lk10 rfl), (lk11 rfl), (lk12 rfl), trivial⟩ (fun _ => Stars.sel (by repeat constructor)) ?_
 exact ⟨Nat.zero_le _, Nat.zero_le _, hV, hrc, hct⟩
 rintro ⟨i, ⟨za, zc⟩, W2⟩ ρ ⟨hk, hk2, hw2, hzc, hzt⟩
 simp only [cA, nA]
 dsimp only at hk hk2 hw2 hzc hzt ⊢
 have hzr := hw2.rows
 refine J.seq <| J.sr <| JL.mv (t0 rfl) <| JL.mv (t9 rfl) <| JL.rd (Rd.len Try.runUnderlying22 (t0 rfl)) <| JL.rd (Rd.lss (t2 rfl) (t0 rfl)) <| JL.mv (t0 rfl) <| JL.caseD (t0 rfl) ?_ ?_
 intro hb3p hb3
 refine JL.rdG rfl (EvB (t0 rfl) hb3) rfl (Rd.move (t5 rfl)) <| JL.rdG rfl (EvB (t1 rfl) hb3) rfl (Rd.lss (t0 rfl) Ev.c) <| JL.rd (Rd.pickT (EvB (t2 rfl) hb3) (t0 rfl)) <| JL.mv (t0 rfl) <| JL.caseD (t0 rfl) ?_ ?_
 intro hb4p hb4
 refine JL.rdG rfl (EvB (t0 rfl) hb4) rfl (Rd.move (t11 rfl)) <| JL.rd (Rd.pickT (EvB (t1 rfl) hb4) (t0 rfl)) <| JL.n2 <| J.condT (EvB (t0 rfl) rfl) <| J.skip <| At.next <| J.seq <| J.block <| J.seq ?_
 obtain ⟨o, hlo⟩ : ∃ o, l2[i]? = some o := ⟨_, List.getElem?_eq_getElem (by omega)⟩
 have hx : (l2.map opR)[(i : Int).toNat]? = some (opR o) := by simp [hlo]
 refine J.region <| JL.mv (t19 rfl) <| JL.mv (t12 rfl) <| JL.rd (Rd.sIdx Try.runUnderlying22 Try.sizeOf47 (t1 rfl) (t0 rfl) (Src.i (by repeat constructor)) (by first | (simp; done) | (simp; omega) | omega | (simp [*]; done) | (simp [*]; omega)) (by omega) (by omega)) ?_
 refine JL.rd (Rd.sFld0 fld_47_0 (t0 rfl) (Src.i (by repeat constructor)) (List.getElem?_eq_some_iff.1 hx).1) ?_
 refine JL.rd (Rd.sLd Try.isAgg5 (t0 rfl) (Src.i (by repeat constructor)) hx rfl) ?_
 refine JL.rd (Rd.rem (t0 rfl) Ev.c (by omega) (by omega)) ?_
 refine JL.rd (Rd.neq (t0 rfl) Ev.c) <| JL.n2 <| J.condD (t0 rfl) ?_ ?_
 intro hc5
 refine J.draw [lz, lz, lz, lz, lz, lz, ⟨true, 0, 0⟩, ⟨false, 1, 1⟩, ⟨false, 1, 1⟩, ⟨false, 1, 2⟩, ⟨true, 1, 1⟩, ⟨false, 2, 2⟩] [6, 10] mixed rfl <| DRun.at [] [0, 1, 2, 3, 4, 5] rfl rfl ?_ ?_
 exact .nil
 refine DNew.rd rfl (Rd.ldB Try.isAgg28 Try.sizeOf28 (t24 rfl) (by repeat constructor) (by first | rfl | assumption | simp_all)) ?_
 refine DNew.rd rfl (Rd.move (t20 rfl)) <| DNew.rd rfl (Rd.move (t28 rfl)) <| DNew.rd rfl (Rd.move (t21 rfl)) <| DNew.rd rfl (Rd.sIdx Try.runUnderlying22 Try.sizeOf47 (t1 rfl) (t0 rfl) (Src.i (by repeat constructor)) (by first | (simp; done) | (simp; omega) | omega | (simp [*]; done) | (simp [*]; omega)) (by omega) (by omega)) ?_
 refine DNew.rd rfl (Rd.sLdA Try.isAgg47 Try.sizeOf47 (t0 rfl) (Src.i (by repeat constructor)) hx) ?_
 refine DNew.nil <| DRun.ef rfl (Ef.call (.cons (t5 rfl) (.cons (t4 rfl) (.cons (t0 rfl) .nil))) (do_any t d m (12041 + 301 * i) (40 + i) 40 W2 hw2 (by omega) (by omega) (by omega) za zc hzc o (hok2 o (List.mem_of_getElem? hlo))) (by repeat constructor) ?_)
 rintro ⟨⟨ya, yc⟩, W3⟩ ⟨hw3, hy, hk3⟩
 dsimp only at hw3 hy hk3
 simp only [cA, nA]
 refine DRun.at [] [7, 8, 9] rfl rfl ?_ ?_
 exact .nil
 refine DNew.rd rfl (Rd.move (t0 rfl)) <| DNew.rd rfl (Rd.extract (t0 rfl) (by repeat constructor)) ?_
 refine DNew.rd rfl (Rd.extract (t1 rfl) (by repeat constructor)) ?_
 refine DNew.nil <| DRun.ef rfl (Rd.ef (Rd.assign (t1 rfl)) ?_)
 refine DRun.end [9] [11] rfl rfl ?_ ?_
 refine DCar.rd rfl (lk1 rfl) (Rd.extract (t3 rfl) (by repeat constructor)) ?_
 exact .nil
 refine DNew.rd rfl (Rd.assign (t1 rfl)) <| DNew.nil <| At.blkN <| At.next <| J.live (K := [(7, _), (10, _), (11, _), (9, _), (8, _), (6, _), (5, _), (4, _), (1, _)]) ⟨lk0, (lk1 rfl), (lk30 rfl), (lk33 rfl), (lk34 rfl), (lk35 rfl), (lk36 rfl), (lk37 rfl), (lk38 rfl), trivial⟩ ?_
 intro ρ6
 refine J.region <| JL.mv (t2 rfl) <| JL.rd (Rd.add (t0 rfl) Ev.c (w64 (by omega) (by omega))) ?_
 refine JL.as (t0 rfl) <| JL.nil <| At.again ((i + 1, (ya, yc), W3)) ?_ ?_ ⟨lk0.trans (by first | (rfl; done) | with_reducible rfl | (congr 1; omega) | (simp; done) | (simp [*]; done)), (lk4 rfl).trans (by first | (rfl; done) | with_reducible rfl | (congr 1; omega) | (simp; done) | (simp [*]; done)), (lk3 rfl).trans (by first | (rfl; done) | with_reducible rfl | (congr 1; omega) | (simp; done) | (simp [*]; done)), trivial⟩ ⟨(lk6 rfl), (lk7 rfl), (lk8 rfl), (lk9 rfl), (lk10 rfl), (lk11 rfl), trivial⟩ (fun _ => Stars.sel (by repeat constructor))
 first | exact ⟨by show i + 1 ≤ l2.length; omega, by show i + 1 ≤ 40; omega, (hw3.mono (by omega) (by omega) (Nat.le_refl _)).reold (by rw [hk3 (by omega), hzt]; omega), hy, (hk3 (by omega)).trans hzt⟩ | exact ⟨by show i + 1 ≤ l2.length; omega, by show i + 1 ≤ 40; omega, hw2.mono (by omega) (by omega) (Nat.le_refl _), hzc, hzt⟩
 show 40 - (i + 1) < 40 - i; omega
 intro hc5
 refine J.skip <| At.blkN <| At.next <| J.region <| JL.mv (t18 rfl) <| JL.rd (Rd.add (t0 rfl) Ev.c (w64 (by omega) (by omega))) ?_
 refine JL.as (t0 rfl) <| JL.nil <| At.again ((i + 1, (za, zc), W2)) ?_ ?_ ⟨lk0.trans (by first | (rfl; done) | with_reducible rfl | (congr 1; omega) | (simp; done) | (simp [*]; done)), (lk22 rfl).trans (by first | (rfl; done) | with_reducible rfl | (congr 1; omega) | (simp; done) | (simp [*]; done)), (lk23 rfl).trans (by first | (rfl; done) | with_reducible rfl | (congr 1; omega) | (simp; done) | (simp [*]; done)), trivial⟩ ⟨(lk24 rfl), (lk25 rfl), (lk26 rfl), (lk27 rfl), (lk28 rfl), (lk29 rfl), trivial⟩ (fun _ => Stars.sel (by repeat constructor))
 first | exact ⟨by show i + 1 ≤ l2.length; omega, by show i + 1 ≤ 40; omega, (hw3.mono (by omega) (by omega) (Nat.le_refl _)).reold (by rw [hk3 (by omega), hzt]; omega), hy, (hk3 (by omega)).trans hzt⟩ | exact ⟨by show i + 1 ≤ l2.length; omega, by show i + 1 ≤ 40; omega, hw2.mono (by omega) (by omega) (Nat.le_refl _), hzc, hzt⟩
 show 40 - (i + 1) < 40 - i; omega
 intro hb4p hb4
 refine JL.skG rfl (EvB (t0 rfl) hb4) rfl <| JL.rd (Rd.pickF (EvB (t1 rfl) hb4) Ev.c) <| JL.n2 <| J.condF (t0 rfl) <| J.exit <| At.nextX <| At.loopX <| At.blkX <| At.next <| J.seq ?_
 obtain ⟨hld, hlu⟩ := load_hd hV.pi hVl (hzt ▸ hw2.pi.chd)
 refine J.region <| JL.mv (t14 rfl) <| JL.ef (Ef.call (.cons Ev.c (.cons Ev.c (.cons (t0 rfl) .nil))) (mload_any 3 300 (by decide) (by decide) (by decide) (inL V.2.1 [1, 2]) (fun x hx => by have := inL_lt x hx; omega) (inL_nodup _ _) (by omega) ua uc (row ua uc 3 1 (inV 3 (inL V.2.1 [1, 2]))) (fun t => SIn.row t)) (by repeat constructor) ?_)
 rintro m2 -
 simp only [cA, nA]
 refine JL.mv (t0 rfl) <| JL.e (t0 rfl) <| JL.e (t1 rfl) <| JL.as (t1 rfl) <| JL.as (t1 rfl) <| JL.n4 <| JL.rd ((by first | exact Rd.fld0 fld_28_0 (t24 rfl) | exact Rd.fldz fld_28_0 (t24 rfl))) ?_
 refine JL.rd (Rd.ldN Try.isAgg24 (t0 rfl) (by repeat constructor) (by repeat constructor)) ?_
 refine JL.mv (t3 rfl) <| JL.mv (t25 rfl) <| JL.ef (Ef.call (.cons (t2 rfl) (.cons (t1 rfl) (.cons (t0 rfl) .nil))) (load_rt d m2 W2.1 (loadS 300 (inL V.2.1 [1, 2])) V.2.2.1 hld hw2.live.2.1 (by rw [hw2.live.2.2]; decide) hlu) (by repeat constructor) ?_)
 rintro p -
 simp only [cA, nA]
 refine JL.mv (t0 rfl) <| JL.e (t0 rfl) <| JL.e (t1 rfl) <| JL.as (t1 rfl) <| JL.as (t1 rfl) <| JL.ns <| J.live (K := [(15, _), (14, _), (13, _), (10, _), (7, _), (6, _), (5, _), (4, _)]) ⟨lk0, (lk1 rfl), (lk10 rfl), (lk29 rfl), (lk30 rfl), (lk33 rfl), (lk34 rfl), (lk35 rfl), trivial⟩ ?_
 intro ρ7
 refine J.region <| JL.mv (t4 rfl) <| JL.mv (t0 rfl) <| JL.rdG rfl (EvB (t0 rfl) rfl) rfl (Rd.move (t4 rfl)) <| JL.rdG rfl (EvB (t1 rfl) rfl) rfl (Rd.eql (t0 rfl) Ev.c) <| JL.rd (Rd.pickT (EvB (t2 rfl) rfl) (t0 rfl)) <| JL.mv (t0 rfl) <| JL.rdG rfl (EvB (t0 rfl) rfl) rfl (Rd.move (t6 rfl)) <| JL.rdG rfl (EvB (t1 rfl) rfl) rfl (Rd.eql (t0 rfl) Ev.c) <| JL.rd (Rd.pickT (EvB (t2 rfl) rfl) (t0 rfl)) <| JL.mv (t0 rfl) <| JL.rdG rfl (EvB (t0 rfl) rfl) rfl (Rd.move (t11 rfl)) <| JL.rdG rfl (EvB (t1 rfl) rfl) rfl (Rd.move (t16 rfl)) <| JL.efG rfl (EvB (t2 rfl) rfl) rfl (Ef.call (.cons (t1 rfl) (.cons (t0 rfl) .nil)) (all_any p d m2 3 W2.1 (loadS 300 (inL V.2.1 [1, 2])) V.2.2.1 hV.pi.ok hld (rhd_of hV.pi hld (by omega)) hw2.live.2.1 (by omega) ra rc (entR V.2.2.1) (by omega)) (by repeat constructor) ?_)
 rintro - -
 rw [decide_eq_true rfl]
 simp only [cA, nA]
 refine JL.rd (Rd.pickT (EvB (t3 rfl) rfl) (t0 rfl)) <| JL.mv (t0 rfl) <| JL.rdG rfl (EvB (t0 rfl) rfl) rfl ((by first | exact Rd.fld0 fld_28_2 (t21 rfl) | exact Rd.fld fld_28_2 (t21 rfl))) ?_
 refine JL.rdG rfl (EvB (t1 rfl) rfl) rfl (Rd.ldN Try.isAgg26 (t0 rfl) (by repeat constructor) (by repeat constructor)) ?_
 refine JL.rdG rfl (EvB (t2 rfl) rfl) rfl (Rd.move (t20 rfl)) <| JL.efG rfl (EvB (t3 rfl) rfl) rfl (Ef.call (.cons (t1 rfl) (.cons (t0 rfl) .nil)) (all_any t d m 3 W2.1 W2.2.1 W2.2.2.1 hw2.pi.ok hw2.pi.hd (hw2.pi.rhd (by omega)) hw2.live.2.1 (by omega) za zc (entR W2.2.2.1) (by omega)) (by repeat constructor) ?_)
 rintro - -
 rw [decide_eq_true rfl]
 simp only [cA, nA]
 exact JL.rd (Rd.pickT (EvB (t4 rfl) rfl) (t0 rfl)) <| JL.as (t0 rfl) <| JL.nr <| At.r (()) (trivial) (ResV.one rfl (t0 rfl)) rfl
 intro hb3p hb3
 refine JL.skG rfl (EvB (t0 rfl) hb3) rfl <| JL.skG rfl (EvB (t1 rfl) hb3) rfl <| JL.rd (Rd.pickF (EvB (t2 rfl) hb3) Ev.c) <| JL.mv (t0 rfl) <| JL.skG rfl (t0 rfl) rfl <| JL.rd (Rd.pickF (t1 rfl) Ev.c) <| JL.n2 <| J.condF (t0 rfl) <| J.exit <| At.nextX <| At.loopX <| At.blkX <| At.next <| J.seq ?_
 obtain ⟨hld, hlu⟩ := load_hd hV.pi hVl (hzt ▸ hw2.pi.chd)
 refine J.region <| JL.mv (t14 rfl) <| JL.ef (Ef.call (.cons Ev.c (.cons Ev.c (.cons (t0 rfl) .nil))) (mload_any 3 300 (by decide) (by decide) (by decide) (inL V.2.1 [1, 2]) (fun x hx => by have := inL_lt x hx; omega) (inL_nodup _ _) (by omega) ua uc (row ua uc 3 1 (inV 3 (inL V.2.1 [1, 2]))) (fun t => SIn.row t)) (by repeat constructor) ?_)
 rintro m2 -
 simp only [cA, nA]
 refine JL.mv (t0 rfl) <| JL.e (t0 rfl) <| JL.e (t1 rfl) <| JL.as (t1 rfl) <| JL.as (t1 rfl) <| JL.n4 <| JL.rd ((by first | exact Rd.fld0 fld_28_0 (t24 rfl) | exact Rd.fldz fld_28_0 (t24 rfl))) ?_
 refine JL.rd (Rd.ldN Try.isAgg24 (t0 rfl) (by repeat constructor) (by repeat constructor)) ?_
 refine JL.mv (t3 rfl) <| JL.mv (t25 rfl) <| JL.ef (Ef.call (.cons (t2 rfl) (.cons (t1 rfl) (.cons (t0 rfl) .nil))) (load_rt d m2 W2.1 (loadS 300 (inL V.2.1 [1, 2])) V.2.2.1 hld hw2.live.2.1 (by rw [hw2.live.2.2]; decide) hlu) (by repeat constructor) ?_)
 rintro p -
 simp only [cA, nA]
 refine JL.mv (t0 rfl) <| JL.e (t0 rfl) <| JL.e (t1 rfl) <| JL.as (t1 rfl) <| JL.as (t1 rfl) <| JL.ns <| J.live (K := [(15, _), (14, _), (13, _), (10, _), (7, _), (6, _), (5, _), (4, _)]) ⟨lk0, (lk1 rfl), (lk10 rfl), (lk29 rfl), (lk30 rfl), (lk33 rfl), (lk34 rfl), (lk35 rfl), trivial⟩ ?_
 intro ρ8
 refine J.region <| JL.mv (t4 rfl) <| JL.mv (t0 rfl) <| JL.rdG rfl (EvB (t0 rfl) rfl) rfl (Rd.move (t4 rfl)) <| JL.rdG rfl (EvB (t1 rfl) rfl) rfl (Rd.eql (t0 rfl) Ev.c) <| JL.rd (Rd.pickT (EvB (t2 rfl) rfl) (t0 rfl)) <| JL.mv (t0 rfl) <| JL.rdG rfl (EvB (t0 rfl) rfl) rfl (Rd.move (t6 rfl)) <| JL.rdG rfl (EvB (t1 rfl) rfl) rfl (Rd.eql (t0 rfl) Ev.c) <| JL.rd (Rd.pickT (EvB (t2 rfl) rfl) (t0 rfl)) <| JL.mv (t0 rfl) <| JL.rdG rfl (EvB (t0 rfl) rfl) rfl (Rd.move (t11 rfl)) <| JL.rdG rfl (EvB (t1 rfl) rfl) rfl (Rd.move (t16 rfl)) <| JL.efG rfl (EvB (t2 rfl) rfl) rfl (Ef.call (.cons (t1 rfl) (.cons (t0 rfl) .nil)) (all_any p d m2 3 W2.1 (loadS 300 (inL V.2.1 [1, 2])) V.2.2.1 hV.pi.ok hld (rhd_of hV.pi hld (by omega)) hw2.live.2.1 (by omega) ra rc (entR V.2.2.1) (by omega)) (by repeat constructor) ?_)
 rintro - -
 rw [decide_eq_true rfl]
 simp only [cA, nA]
 refine JL.rd (Rd.pickT (EvB (t3 rfl) rfl) (t0 rfl)) <| JL.mv (t0 rfl) <| JL.rdG rfl (EvB (t0 rfl) rfl) rfl ((by first | exact Rd.fld0 fld_28_2 (t21 rfl) | exact Rd.fld fld_28_2 (t21 rfl))) ?_
 refine JL.rdG rfl (EvB (t1 rfl) rfl) rfl (Rd.ldN Try.isAgg26 (t0 rfl) (by repeat constructor) (by repeat constructor)) ?_
 refine JL.rdG rfl (EvB (t2 rfl) rfl) rfl (Rd.move (t20 rfl)) <| JL.efG rfl (EvB (t3 rfl) rfl) rfl (Ef.call (.cons (t1 rfl) (.cons (t0 rfl) .nil)) (all_any t d m 3 W2.1 W2.2.1 W2.2.2.1 hw2.pi.ok hw2.pi.hd (hw2.pi.rhd (by omega)) hw2.live.2.1 (by omega) za zc (entR W2.2.2.1) (by omega)) (by repeat constructor) ?_)
 rintro - -
 rw [decide_eq_true rfl]
 simp only [cA, nA]
 exact JL.rd (Rd.pickT (EvB (t4 rfl) rfl) (t0 rfl)) <| JL.as (t0 rfl) <| JL.nr <| At.r (()) (trivial) (ResV.one rfl (t0 rfl)) rfl
set_option maxHeartbeats 1000000 in
theorem space_any (b : UInt8) (a : Option Addr) (cap : Nat) (l : List OpR) (_ : l.length ≤ 9223372036854775807) (hok : ∀ o ∈ l, o.ok) :
    Fn Try.prog 7 [.int .u8 (b.toNat : Int), .slice a l.length cap] [rowR a 7 (l.map opR)] (X := Unit) (fun _ => True) (fun _ => .bool true) (fun _ => []) := by
 refine Fn.mk' (n := 124) (l := [(0, .int .u8 (b.toNat : Int)), (1, .slice a l.length cap)]) (fn := Try.f7) Try.func7 (by kernel_rfl) rfl rfl (by simp) rfl ?_
 intro h0 w0
 refine J.sr <| JL.as Ev.c <| JL.n5 <| JL.ef (Ef.call .nil (known_any) (by repeat constructor) ?_)
 rintro - -
 simp only [nA]
 refine JL.rd (Rd.not (EvB (t0 rfl) rfl)) <| JL.n2 <| J.condF (EvB (t0 rfl) rfl) <| J.skip <| At.next <| J.seq ?_
 obtain ⟨q, hq⟩ : ∃ q, q = 1 + b.toNat % 40 := ⟨_, rfl⟩
 refine J.region <| JL.mv (t3 rfl) <| JL.rd (Rd.rem (t0 rfl) Ev.c (by omega) (by omega)) ?_
 refine JL.rd (Rd.conv (t0 rfl) (fun w => ⟨_, Try.runUnderlying5 w⟩) Try.runUnderlying3 (w64 (by omega) (by omega))) ?_
 refine JL.rd (Rd.add Ev.c (t0 rfl) (w64 (by omega) (by omega))) ?_
 rw [show (1 + (b.toNat : Int) % 40) = (q : Int) by omega]
 refine JL.ef (Ef.call (.cons (t0 rfl) .nil) (fresh_any q (by omega) (by omega)) (by repeat constructor) ?_)
 rintro ⟨d, m, t⟩ -
 simp only [cA, nA]
 refine JL.mv (t0 rfl) <| JL.e (t0 rfl) <| JL.e (t1 rfl) <| JL.ef (Ef.alloc Try.zeroValue28 rfl ?_)
 intro b1
 refine JL.ef0 (Ef.stB Try.sizeOf28 (t0 rfl) (t2 rfl) (by repeat constructor) (by repeat constructor) (by first | rfl | assumption | simp_all) (by first | rfl | assumption | simp_all) (by first | exact bv_one _ | exact cons_one rfl (bv_one _) | (simp [Value.oneCell']; done) | (simp [Value.oneCell', str]; done)) (by decide) ?_)
 refine JL.as (t1 rfl) <| JL.n5 <| JL.mv (t0 rfl) <| JL.rd (Rd.not (EvB (t0 rfl) rfl)) <| JL.n2 <| J.condF (EvB (t0 rfl) rfl) <| J.k4 <| JL.as Ev.c <| JL.n5 <| JL.as Ev.c <| JL.nb <| J.loop (X := Nat × (Option Addr × Nat) × Ws) (fun (x : Nat × (Option Addr × Nat) × Ws) => [(8, .int .i64 (x.1 : Int)), (7, .slice x.2.1.1 (entR x.2.2.2.2.1).length x.2.1.2)]) (K := [(5, _), (4, _), (1, _)]) (fun x => [pts b1 (.cells [.pointer (some ⟨d, 0, none⟩), .pointer (some ⟨m, 0, none⟩), .pointer (some ⟨t, 0, none⟩)].toArray 28), pts t (.cells [.pointer (some ⟨d, 0, none⟩), .pointer (some ⟨m, 0, none⟩), .int .i64 (rootI x.2.2.2.2.1)].toArray 77), dk d x.2.2.1, bm m 3 x.2.2.2.1, rowR x.2.1.1 2 ((entR x.2.2.2.2.1).map itc), rowR a 7 (l.map opR)]) (fun x => x.1 ≤ l.length ∧ x.1 ≤ 40 ∧ WI q (300 * x.1) x.1 0 x.2.2 ∧ (entR x.2.2.2.2.1).length ≤ x.2.1.2) (fun x => 40 - x.1) ((0, (none, 0), newW q)) ?_ ⟨lk0.trans (by first | (rfl; done) | with_reducible rfl | (congr 1; omega) | (simp; done) | (simp [*]; done)), (lk1 rfl).trans (by first | (rfl; done) | with_reducible rfl | (congr 1; omega) | (simp; done) | (simp [*]; done)), trivial⟩ ⟨(lk5 rfl), (lk16 rfl), (lk18 rfl), trivial⟩ (fun _ s => by have s1 := rowR_nil none 2 s; exact Stars.sel (by repeat constructor) s1) ?_
 exact ⟨Nat.zero_le _, Nat.zero_le _, new_wi (by omega), Nat.zero_le _⟩
 rintro ⟨i, ⟨ra, rc⟩, W⟩ ρ ⟨hk, hk2, hwi, hrc⟩
 simp only [cA, nA]
 dsimp only at hk hk2 hwi hrc ⊢
 have hrows := hwi.rows
 have hwl := hwi.len
 have hH6 := hgt_le (H := 6) (k := 40) hwi.pi.ok (by omega) (by decide)
 refine J.seq <| J.sr <| JL.mv (t0 rfl) <| JL.mv (t5 rfl) <| JL.rd (Rd.len Try.runUnderlying22 (t0 rfl)) <| JL.rd (Rd.lss (t2 rfl) (t0 rfl)) <| JL.mv (t0 rfl) <| JL.caseD (t0 rfl) ?_ ?_
 intro hb2p hb2
 refine JL.rdG rfl (EvB (t0 rfl) hb2) rfl (Rd.move (t5 rfl)) <| JL.rdG rfl (EvB (t1 rfl) hb2) rfl (Rd.lss (t0 rfl) Ev.c) <| JL.rd (Rd.pickT (EvB (t2 rfl) hb2) (t0 rfl)) <| JL.n2 <| J.condD (t0 rfl) ?_ ?_
 intro hc3
 refine J.skip <| At.next <| J.seq <| J.block <| J.seq ?_
 obtain ⟨o, hlo⟩ : ∃ o, l[i]? = some o := ⟨_, List.getElem?_eq_getElem (by omega)⟩
 have hx : (l.map opR)[(i : Int).toNat]? = some (opR o) := by simp [hlo]
 obtain ⟨V, hVe⟩ : ∃ V, V = putW (keyF o) (valF o) W := ⟨_, rfl⟩
 have hsp := space_step (key := keyF o) (val := valF o) hwi (by omega) (by omega)
 rw [← hVe] at hsp
 refine J.region <| JL.rd ((by first | exact Rd.fld0 fld_28_2 (t10 rfl) | exact Rd.fld fld_28_2 (t10 rfl))) ?_
 refine JL.rd (Rd.ldN Try.isAgg26 (t0 rfl) (by repeat constructor) (by repeat constructor)) ?_
 refine JL.ef (Ef.call (.cons (t0 rfl) .nil) (height_any t d m W.1 W.2.2.1 (hwi.pi.rhd (by omega)).hr walkRok_hgt) (by repeat constructor) ?_)
 rintro - -
 rw [walkR_hgt hwi.pi.ok hwi.pi.hd hwi.live.2.1]
 dsimp only
 rw [if_pos rfl]
 simp only [cA, nA]
 refine JL.mv (t0 rfl) <| JL.e (t0 rfl) <| JL.e (t1 rfl) <| JL.as (t1 rfl) <| JL.as (t1 rfl) <| JL.n4 <| JL.rd ((by first | exact Rd.fld0 fld_28_1 (t18 rfl) | exact Rd.fld fld_28_1 (t18 rfl))) ?_
 refine JL.rd (Rd.ldN Try.isAgg25 (t0 rfl) (by repeat constructor) (by repeat constructor)) ?_
 refine JL.ef (Ef.call (.cons (t0 rfl) (.cons Ev.c .nil)) (number_m m 3 W.2.1 0 (by omega)) (by repeat constructor) ?_)
 rintro - -
 rw [frS_inL]
 simp only [cA, nA]
 refine JL.as (t0 rfl) <| JL.n4 <| JL.rd ((by first | exact Rd.fld0 fld_28_1 (t22 rfl) | exact Rd.fld fld_28_1 (t22 rfl))) ?_
 refine JL.rd (Rd.ldN Try.isAgg25 (t0 rfl) (by repeat constructor) (by repeat constructor)) ?_
 refine JL.ef (Ef.call (.cons (t0 rfl) .nil) (mclone_any m 3 W.2.1) (by repeat constructor) ?_)
 rintro mc -
 simp only [cA, nA]
 refine JL.as (t0 rfl) <| JL.ns <| J.live (K := [(12, _), (11, _), (10, _), (9, _), (8, _), (7, _), (5, _), (4, _), (1, _)]) ⟨lk0, (lk4 rfl), (lk8 rfl), (lk9 rfl), (lk24 rfl), (lk25 rfl), (lk26 rfl), (lk27 rfl), (lk28 rfl), trivial⟩ ?_
 intro ρ4
 refine J.region <| JL.rd ((by first | exact Rd.fld0 fld_28_2 (t6 rfl) | exact Rd.fld fld_28_2 (t6 rfl))) ?_
 refine JL.rd (Rd.ldN Try.isAgg26 (t0 rfl) (by repeat constructor) (by repeat constructor)) ?_
 refine JL.ef (Ef.call (.cons (t0 rfl) .nil) (root_any t d m (rootI W.2.2.1)) (by repeat constructor) ?_)
 rintro - -
 simp only [cA, nA]
 refine JL.as (t0 rfl) <| JL.ns <| J.draw [⟨false, 0, 2⟩, lz, lz, lz, lz, ⟨true, 0, 0⟩, ⟨false, 0, 1⟩, ⟨false, 0, 1⟩, ⟨false, 0, 1⟩, ⟨false, 0, 1⟩, ⟨true, 1, 1⟩, ⟨true, 2, 2⟩, ⟨false, 3, 3⟩, ⟨false, 3, 3⟩, ⟨false, 3, 3⟩, ⟨false, 3, 3⟩, ⟨false, 3, 3⟩] [5, 10, 11] mixed rfl <| DRun.at [] [0, 1, 2, 3, 4, 6, 7, 8, 9] rfl rfl ?_ ?_
 exact .nil
 refine DNew.rd rfl (Rd.move (t9 rfl)) <| DNew.rd rfl (Rd.move (t13 rfl)) <| DNew.rd rfl (Rd.move (t10 rfl)) <| DNew.rd rfl (Rd.sIdx Try.runUnderlying22 Try.sizeOf47 (t1 rfl) (t0 rfl) (Src.i (by repeat constructor)) (by first | (simp; done) | (simp; omega) | omega | (simp [*]; done) | (simp [*]; omega)) (by omega) (by omega)) ?_
 refine DNew.rd rfl (Rd.sLdA Try.isAgg47 Try.sizeOf47 (t0 rfl) (Src.i (by repeat constructor)) hx) ?_
 refine DNew.rd rfl (Rd.move (t17 rfl)) <| DNew.rd rfl (Rd.move (t14 rfl)) <| DNew.rd rfl (Rd.sIdx Try.runUnderlying22 Try.sizeOf47 (t1 rfl) (t0 rfl) (Src.i (by repeat constructor)) (by first | (simp; done) | (simp; omega) | omega | (simp [*]; done) | (simp [*]; omega)) (by omega) (by omega)) ?_
 refine DNew.rd rfl (Rd.sLdA Try.isAgg47 Try.sizeOf47 (t0 rfl) (Src.i (by repeat constructor)) hx) ?_
 refine DNew.nil <| DRun.ef rfl (Ef.call (.cons (t4 rfl) .nil) (key_any o (hok o (List.mem_of_getElem? hlo))) (by repeat constructor) ?_)
 rintro - -
 simp only [nA]
 refine DRun.at [0, 6, 7, 8, 9] [] rfl rfl ?_ ?_
 refine DCar.rd rfl (lk9 rfl) (Rd.move (t19 rfl)) <| DCar.rd rfl (lk4 rfl) (Rd.move (t22 rfl)) <| DCar.rd rfl (lk3 rfl) (Rd.move (t18 rfl)) <| DCar.rd rfl (lk2 rfl) (Rd.sIdx Try.runUnderlying22 Try.sizeOf47 (t4 rfl) (t3 rfl) (Src.i (by repeat constructor)) (by first | (simp; done) | (simp; omega) | omega | (simp [*]; done) | (simp [*]; omega)) (by omega) (by omega)) ?_
 refine DCar.rd rfl (lk1 rfl) (Rd.sLdA Try.isAgg47 Try.sizeOf47 (t2 rfl) (Src.i (by repeat constructor)) hx) ?_
 exact .nil
 refine DNew.nil <| DRun.ef rfl (Ef.call (.cons (t1 rfl) .nil) (value_any o (hok o (List.mem_of_getElem? hlo))) (by repeat constructor) ?_)
 rintro - -
 simp only [nA]
 refine DRun.at [0] [] rfl rfl ?_ ?_
 exact DCar.rd rfl (lk10 rfl) (Rd.move (t20 rfl)) <| .nil
 refine DNew.nil <| DRun.ef rfl (Ef.call (.cons (t10 rfl) (.cons (t1 rfl) (.cons (t0 rfl) .nil))) (rput_all ra rc (entR W.2.2.1) (keyF o) (valF o) hrc (by omega)) (by repeat constructor) ?_)
 rintro ⟨ya, yc⟩ hyc
 simp only [cA, nA]
 refine DRun.end [] [12, 13, 14, 15, 16] rfl rfl ?_ ?_
 exact .nil
 refine DNew.rd rfl (Rd.move (t0 rfl)) <| DNew.rd rfl (Rd.extract (t0 rfl) (by repeat constructor)) ?_
 refine DNew.rd rfl (Rd.extract (t1 rfl) (by repeat constructor)) ?_
 refine DNew.rd rfl (Rd.assign (t1 rfl)) <| DNew.rd rfl (Rd.assign (t1 rfl)) <| DNew.n2 <| J.seq <| J.live (K := [(15, _), (14, _), (13, _), (12, _), (11, _), (10, _), (9, _), (8, _), (7, _), (5, _), (4, _), (1, _)]) ⟨lk0, (lk1 rfl), (lk17 rfl), (lk21 rfl), (lk22 rfl), (lk23 rfl), (lk24 rfl), (lk25 rfl), (lk26 rfl), (lk27 rfl), (lk28 rfl), (lk29 rfl), trivial⟩ ?_
 intro ρ5
 refine J.draw [⟨false, 0, 2⟩, ⟨false, 0, 2⟩, lz, lz, lz, lz, ⟨true, 0, 0⟩, ⟨false, 0, 1⟩, ⟨false, 0, 1⟩, ⟨false, 0, 1⟩, ⟨false, 0, 1⟩, ⟨true, 1, 1⟩, ⟨true, 2, 2⟩, ⟨false, 3, 3⟩] [6, 11, 12] mixed rfl <| DRun.at [] [0, 1, 2, 3, 4, 5, 7, 8, 9, 10] rfl rfl ?_ ?_
 exact .nil
 refine DNew.rd rfl ((by first | exact Rd.fld0 fld_28_2 (t9 rfl) | exact Rd.fld fld_28_2 (t9 rfl))) ?_
 refine DNew.rd rfl (Rd.ldN Try.isAgg26 (t0 rfl) (by repeat constructor) (by repeat constructor)) ?_
 refine DNew.rd rfl (Rd.move (t13 rfl)) <| DNew.rd rfl (Rd.move (t10 rfl)) <| DNew.rd rfl (Rd.sIdx Try.runUnderlying22 Try.sizeOf47 (t1 rfl) (t0 rfl) (Src.i (by repeat constructor)) (by first | (simp; done) | (simp; omega) | omega | (simp [*]; done) | (simp [*]; omega)) (by omega) (by omega)) ?_
 refine DNew.rd rfl (Rd.sLdA Try.isAgg47 Try.sizeOf47 (t0 rfl) (Src.i (by repeat constructor)) hx) ?_
 refine DNew.rd rfl (Rd.move (t17 rfl)) <| DNew.rd rfl (Rd.move (t14 rfl)) <| DNew.rd rfl (Rd.sIdx Try.runUnderlying22 Try.sizeOf47 (t1 rfl) (t0 rfl) (Src.i (by repeat constructor)) (by first | (simp; done) | (simp; omega) | omega | (simp [*]; done) | (simp [*]; omega)) (by omega) (by omega)) ?_
 refine DNew.rd rfl (Rd.sLdA Try.isAgg47 Try.sizeOf47 (t0 rfl) (Src.i (by repeat constructor)) hx) ?_
 refine DNew.nil <| DRun.ef rfl (Ef.call (.cons (t4 rfl) .nil) (key_any o (hok o (List.mem_of_getElem? hlo))) (by repeat constructor) ?_)
 rintro - -
 simp only [nA]
 refine DRun.at [0, 1, 7, 8, 9, 10] [] rfl rfl ?_ ?_
 refine DCar.rd rfl (lk10 rfl) ((by first | exact Rd.fld0 fld_28_2 (t20 rfl) | exact Rd.fld fld_28_2 (t20 rfl))) ?_
 refine DCar.rd rfl (lk9 rfl) (Rd.ldN Try.isAgg26 (t10 rfl) (by repeat constructor) (by repeat constructor)) ?_
 refine DCar.rd rfl (lk4 rfl) (Rd.move (t22 rfl)) <| DCar.rd rfl (lk3 rfl) (Rd.move (t18 rfl)) <| DCar.rd rfl (lk2 rfl) (Rd.sIdx Try.runUnderlying22 Try.sizeOf47 (t4 rfl) (t3 rfl) (Src.i (by repeat constructor)) (by first | (simp; done) | (simp; omega) | omega | (simp [*]; done) | (simp [*]; omega)) (by omega) (by omega)) ?_
 refine DCar.rd rfl (lk1 rfl) (Rd.sLdA Try.isAgg47 Try.sizeOf47 (t2 rfl) (Src.i (by repeat constructor)) hx) ?_
 exact .nil
 refine DNew.nil <| DRun.ef rfl (Ef.call (.cons (t1 rfl) .nil) (value_any o (hok o (List.mem_of_getElem? hlo))) (by repeat constructor) ?_)
 rintro - -
 simp only [nA]
 refine DRun.at [0, 1] [] rfl rfl ?_ ?_
 refine DCar.rd rfl (lk11 rfl) ((by first | exact Rd.fld0 fld_28_2 (t21 rfl) | exact Rd.fld fld_28_2 (t21 rfl))) ?_
 refine DCar.rd rfl (lk10 rfl) (Rd.ldN Try.isAgg26 (t11 rfl) (by repeat constructor) (by repeat constructor)) ?_
 exact .nil
 refine DNew.nil <| DRun.ef rfl (Ef.call (.cons (t10 rfl) (.cons (t1 rfl) (.cons (t0 rfl) .nil))) (put_g t d m W (keyF o) (valF o) hwi.pi (hwi.pi.rhd (by omega)) (hwi.stok (by omega))) (by repeat constructor) ?_)
 rintro - -
 simp only [cA, nA]
 refine DRun.end [] [13] rfl rfl ?_ ?_
 exact .nil
 refine DNew.rd rfl (Rd.assign (t0 rfl)) <| DNew.n2 <| J.seq <| J.block <| J.seq ?_
 rw [← hVe]
 rcases hsp with ⟨hpc, hpg, hpw, hU⟩ | ⟨hpc, hpg, hU, hpr⟩ | ⟨hpc, hpg, hpf, hps, hpr, hU⟩
 rw [hpg, hpw]
 refine J.region <| JL.mv (t19 rfl) <| JL.rd (Rd.neq (t0 rfl) Ev.c) <| JL.as (t0 rfl) <| JL.n2 <| J.condF (EvB (t0 rfl) rfl) <| J.seq <| J.live (K := [(16, _), (15, _), (14, _), (13, _), (12, _), (11, _), (9, _), (8, _), (7, _), (5, _), (4, _), (1, _)]) ⟨(lk3 rfl), (lk17 rfl), (lk18 rfl), (lk19 rfl), (lk20 rfl), (lk21 rfl), (lk23 rfl), (lk24 rfl), (lk25 rfl), (lk26 rfl), (lk27 rfl), (lk28 rfl), trivial⟩ ?_
 intro ρ6
 refine J.region <| JL.mv (t1 rfl) <| JL.rd (Rd.neq (t0 rfl) Ev.c) <| JL.as (t0 rfl) <| JL.n2 <| J.condT (EvB (t0 rfl) (by first | exact decide_eq_true (by omega) | exact decide_eq_false (by omega))) ?_
 refine J.sr <| JL.mv (t3 rfl) <| JL.mv (t5 rfl) <| JL.rd (Rd.neq (t1 rfl) (t0 rfl)) <| JL.n2 <| J.condF (EvB (t0 rfl) (decide_eq_false (fun h => h rfl))) <| J.skip <| At.blkN <| At.next <| J.sr <| JL.rd ((by first | exact Rd.fld0 fld_28_2 (t15 rfl) | exact Rd.fld fld_28_2 (t15 rfl))) ?_
 refine JL.rd (Rd.ldN Try.isAgg26 (t0 rfl) (by repeat constructor) (by repeat constructor)) ?_
 refine JL.mv (t16 rfl) <| JL.ef (Ef.call (.cons (t1 rfl) (.cons (t0 rfl) .nil)) (all_any t d m 3 W.1 W.2.1 W.2.2.1 hU.pi.ok hU.pi.hd (hU.pi.rhd (by have := hU.rows; omega)) hU.live.2.1 (by have := hU.rows; omega) ra rc (entR W.2.2.1) (by have := hU.rows; omega)) (by repeat constructor) ?_)
 rintro - -
 rw [decide_eq_true rfl]
 simp only [cA, nA]
 refine JL.rd (Rd.not (EvB (t0 rfl) rfl)) <| JL.n2 <| J.condF (EvB (t0 rfl) rfl) <| J.skip <| At.blkN <| At.next <| J.region <| JL.mv (t18 rfl) <| JL.rd (Rd.add (t0 rfl) Ev.c (w64 (by omega) (by omega))) ?_
 refine JL.as (t0 rfl) <| JL.nil <| At.again ((i + 1, (ra, rc), W)) ?_ ?_ ⟨lk0.trans (by first | (rfl; done) | with_reducible rfl | (congr 1; omega) | (simp; done) | (simp [*]; done)), (lk22 rfl).trans (by first | (rfl; done) | with_reducible rfl | (congr 1; omega) | (simp; done) | (simp [*]; done)), trivial⟩ ⟨(lk23 rfl), (lk24 rfl), (lk25 rfl), trivial⟩ (fun _ => Stars.sel (by repeat constructor))
 exact ⟨by show i + 1 ≤ l.length; omega, by show i + 1 ≤ 40; omega, hU.mono (by omega) (Nat.le_refl _) (Nat.le_refl _), by first | assumption | exact hyc⟩
 show 40 - (i + 1) < 40 - i; omega
 rw [hpg, ← hpr]
 rw [← hpr] at hyc
 refine J.region <| JL.mv (t19 rfl) <| JL.rd (Rd.neq (t0 rfl) Ev.c) <| JL.as (t0 rfl) <| JL.n2 <| J.condF (EvB (t0 rfl) rfl) <| J.seq <| J.live (K := [(16, _), (15, _), (14, _), (13, _), (12, _), (11, _), (9, _), (8, _), (7, _), (5, _), (4, _), (1, _)]) ⟨(lk3 rfl), (lk17 rfl), (lk18 rfl), (lk19 rfl), (lk20 rfl), (lk21 rfl), (lk23 rfl), (lk24 rfl), (lk25 rfl), (lk26 rfl), (lk27 rfl), (lk28 rfl), trivial⟩ ?_
 intro ρ7
 refine J.region <| JL.mv (t1 rfl) <| JL.rd (Rd.neq (t0 rfl) Ev.c) <| JL.as (t0 rfl) <| JL.n2 <| J.condF (EvB (t0 rfl) (by first | exact decide_eq_true (by omega) | exact decide_eq_false (by omega))) ?_
 refine J.sr <| JL.mv (t3 rfl) <| JL.rd (Rd.eql (t0 rfl) Ev.c) <| JL.as (t0 rfl) <| JL.n2 <| J.condT (EvB (t0 rfl) rfl) <| J.region <| JL.mv (t8 rfl) <| JL.as (t0 rfl) <| JL.nil <| At.blkN <| At.next <| J.sr <| JL.rd ((by first | exact Rd.fld0 fld_28_2 (t17 rfl) | exact Rd.fld fld_28_2 (t17 rfl))) ?_
 refine JL.rd (Rd.ldN Try.isAgg26 (t0 rfl) (by repeat constructor) (by repeat constructor)) ?_
 refine JL.mv (t2 rfl) <| JL.ef (Ef.call (.cons (t1 rfl) (.cons (t0 rfl) .nil)) (all_any t d m 3 V.1 V.2.1 V.2.2.1 hU.pi.ok hU.pi.hd (hU.pi.rhd (by have := hU.rows; omega)) hU.live.2.1 (by have := hU.rows; omega) ya yc (entR V.2.2.1) (by have := hU.rows; omega)) (by repeat constructor) ?_)
 rintro - -
 rw [decide_eq_true rfl]
 simp only [cA, nA]
 refine JL.rd (Rd.not (EvB (t0 rfl) rfl)) <| JL.n2 <| J.condF (EvB (t0 rfl) rfl) <| J.skip <| At.blkN <| At.next <| J.region <| JL.mv (t20 rfl) <| JL.rd (Rd.add (t0 rfl) Ev.c (w64 (by omega) (by omega))) ?_
 refine JL.as (t0 rfl) <| JL.nil <| At.again ((i + 1, (ya, yc), V)) ?_ ?_ ⟨lk0.trans (by first | (rfl; done) | with_reducible rfl | (congr 1; omega) | (simp; done) | (simp [*]; done)), (lk8 rfl).trans (by first | (rfl; done) | with_reducible rfl | (congr 1; omega) | (simp; done) | (simp [*]; done)), trivial⟩ ⟨(lk25 rfl), (lk26 rfl), (lk27 rfl), trivial⟩ (fun _ => Stars.sel (by repeat constructor))
 exact ⟨by show i + 1 ≤ l.length; omega, by show i + 1 ≤ 40; omega, hU.mono (by omega) (Nat.le_refl _) (Nat.le_refl _), by first | assumption | exact hyc⟩
 show 40 - (i + 1) < 40 - i; omega
 rw [hpg, hps, hpr]
 refine J.region <| JL.mv (t19 rfl) <| JL.rd (Rd.neq (t0 rfl) Ev.c) <| JL.as (t0 rfl) <| JL.n2 <| J.condF (EvB (t0 rfl) rfl) <| J.seq <| J.live (K := [(16, _), (15, _), (14, _), (13, _), (12, _), (11, _), (9, _), (8, _), (7, _), (5, _), (4, _), (1, _)]) ⟨(lk3 rfl), (lk17 rfl), (lk18 rfl), (lk19 rfl), (lk20 rfl), (lk21 rfl), (lk23 rfl), (lk24 rfl), (lk25 rfl), (lk26 rfl), (lk27 rfl), (lk28 rfl), trivial⟩ ?_
 intro ρ8
 refine J.region <| JL.mv (t1 rfl) <| JL.rd (Rd.neq (t0 rfl) Ev.c) <| JL.as (t0 rfl) <| JL.n2 <| J.condF (EvB (t0 rfl) (by first | exact decide_eq_true (by omega) | exact decide_eq_false (by omega))) ?_
 refine J.sr <| JL.mv (t3 rfl) <| JL.rd (Rd.eql (t0 rfl) Ev.c) <| JL.as (t0 rfl) <| JL.n2 <| J.condF (EvB (t0 rfl) rfl) <| J.sr <| JL.mv (t6 rfl) <| JL.rd (Rd.neq (t0 rfl) Ev.c) <| JL.mv (t0 rfl) <| JL.rdG rfl (EvB (t0 rfl) rfl) rfl (Rd.move (t14 rfl)) <| JL.rdG rfl (EvB (t1 rfl) rfl) rfl (Rd.move (t16 rfl)) <| JL.rdG rfl (EvB (t2 rfl) rfl) rfl (Rd.mul Ev.c (t0 rfl) (w64 (by omega) (by omega))) ?_
 refine JL.rdG rfl (EvB (t3 rfl) rfl) rfl (Rd.add (t0 rfl) Ev.c (w64 (by omega) (by omega))) ?_
 refine JL.rdG rfl (EvB (t4 rfl) rfl) rfl (Rd.geq (t3 rfl) (t0 rfl)) <| JL.rd (Rd.pickF (EvB (t5 rfl) rfl) (t0 rfl)) <| JL.mv (t0 rfl) <| JL.rdG rfl (EvB (t0 rfl) (decide_eq_false (by omega))) rfl ((by first | exact Rd.fld0 fld_28_1 (t25 rfl) | exact Rd.fld fld_28_1 (t25 rfl))) ?_
 refine JL.rdG rfl (EvB (t1 rfl) (decide_eq_false (by omega))) rfl (Rd.ldN Try.isAgg25 (t0 rfl) (by repeat constructor) (by repeat constructor)) ?_
 refine JL.rdG rfl (EvB (t2 rfl) (decide_eq_false (by omega))) rfl (Rd.move (t22 rfl)) ?_
 refine JL.efG rfl (EvB (t3 rfl) (decide_eq_false (by omega))) rfl (Ef.call (.cons (t1 rfl) (.cons (t0 rfl) .nil)) (mequal_any m mc 3 3 W.2.1 W.2.1) (by repeat constructor) ?_)
 rintro - -
 rw [decide_eq_true ⟨rfl, rfl⟩]
 simp only [cA, nA]
 refine JL.rdG rfl (EvB (t4 rfl) (decide_eq_false (by omega))) rfl (Rd.not (EvB (t0 rfl) rfl)) ?_
 refine JL.rd (Rd.pickF (EvB (t5 rfl) (decide_eq_false (by omega))) (t0 rfl)) ?_
 refine JL.mv (t0 rfl) <| JL.rdG rfl (EvB (t0 rfl) rfl) rfl ((by first | exact Rd.fld0 fld_28_2 (t32 rfl) | exact Rd.fld fld_28_2 (t32 rfl))) ?_
 refine JL.rdG rfl (EvB (t1 rfl) rfl) rfl (Rd.ldN Try.isAgg26 (t0 rfl) (by repeat constructor) (by repeat constructor)) ?_
 refine JL.efG rfl (EvB (t2 rfl) rfl) rfl (Ef.call (.cons (t0 rfl) .nil) (root_any t d m (rootI W.2.2.1)) (by repeat constructor) ?_)
 rintro - -
 simp only [cA, nA]
 refine JL.rdG rfl (EvB (t3 rfl) rfl) rfl (Rd.move (t29 rfl)) <| JL.rdG rfl (EvB (t4 rfl) rfl) rfl (Rd.neq (t1 rfl) (t0 rfl)) <| JL.rd (Rd.pickF (EvB (t5 rfl) rfl) (t0 rfl)) <| JL.as (t0 rfl) <| JL.n2 <| J.condF (EvB (t0 rfl) (decide_eq_false (fun h => h rfl))) <| J.skip <| At.blkN <| At.next <| J.seq <| J.live (K := [(8, _), (7, _), (5, _), (4, _), (1, _)]) ⟨(lk37 rfl), (lk38 rfl), (lk39 rfl), (lk40 rfl), (lk41 rfl), trivial⟩ ?_
 intro ρ9
 refine J.region <| JL.rd ((by first | exact Rd.fld0 fld_28_2 (t2 rfl) | exact Rd.fld fld_28_2 (t2 rfl))) ?_
 refine JL.rd (Rd.ldN Try.isAgg26 (t0 rfl) (by repeat constructor) (by repeat constructor)) ?_
 refine JL.mv (t3 rfl) <| JL.ef (Ef.call (.cons (t1 rfl) (.cons (t0 rfl) .nil)) (all_any t d m 3 V.1 W.2.1 W.2.2.1 hU.pi.ok hU.pi.hd (hU.pi.rhd (by have := hU.rows; omega)) hU.live.2.1 (by have := hU.rows; omega) ra rc (entR W.2.2.1) (by have := hU.rows; omega)) (by repeat constructor) ?_)
 rintro - -
 rw [decide_eq_true rfl]
 simp only [cA, nA]
 refine JL.rd (Rd.not (EvB (t0 rfl) rfl)) <| JL.n2 <| J.condF (EvB (t0 rfl) rfl) <| J.skip <| At.blkN <| At.next <| J.region <| JL.mv (t5 rfl) <| JL.rd (Rd.add (t0 rfl) Ev.c (w64 (by omega) (by omega))) ?_
 refine JL.as (t0 rfl) <| JL.nil <| At.again ((i + 1, (ra, rc), (V.1, W.2.1, W.2.2.1, V.2.2.2))) ?_ ?_ ⟨lk0.trans (by first | (rfl; done) | with_reducible rfl | (congr 1; omega) | (simp; done) | (simp [*]; done)), (lk9 rfl).trans (by first | (rfl; done) | with_reducible rfl | (congr 1; omega) | (simp; done) | (simp [*]; done)), trivial⟩ ⟨(lk10 rfl), (lk11 rfl), (lk12 rfl), trivial⟩ (fun _ => Stars.sel (by repeat constructor))
 exact ⟨by show i + 1 ≤ l.length; omega, by show i + 1 ≤ 40; omega, hU.mono (by omega) (Nat.le_refl _) (Nat.le_refl _), by first | assumption | exact hyc⟩
 show 40 - (i + 1) < 40 - i; omega
 intro hc3
 exact J.exit <| At.nextX <| At.loopX <| At.blkX <| At.next <| J.sr <| JL.as Ev.c <| JL.nr <| At.r (()) (trivial) (ResV.one rfl (t0 rfl)) rfl
 intro hb2p hb2
 exact JL.skG rfl (EvB (t0 rfl) hb2) rfl <| JL.skG rfl (EvB (t1 rfl) hb2) rfl <| JL.rd (Rd.pickF (EvB (t2 rfl) hb2) Ev.c) <| JL.n2 <| J.condF (t0 rfl) <| J.exit <| At.nextX <| At.loopX <| At.blkX <| At.next <| J.sr <| JL.as Ev.c <| JL.nr <| At.r (()) (trivial) (ResV.one rfl (t0 rfl)) rfl
end Go.Proofs.Ytbhladkbnleeoaa

