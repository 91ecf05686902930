/-
  Parts of the proof: H7, H8, K18, H9, H13, F0, F1, F2.
-/
import Derived.Test.YtbhladkbnleeoaaM4
import Derived.Test.YtbhladkbnleeoaaRows
import Derived.WalkKit
import Derived.ProofKit
import Derived.OpenShut
import Derived.Deep.Slices
import Derived.Carry
namespace Go.Proofs.Ytbhladkbnleeoaa
set_option maxRecDepth 100000
attribute [local irreducible] J JL At Rd Ef DNew DCar DRun Then RetQ LoopQ


theorem Rd.eqlS {P : Program} {C : Cx} {hs : List Assn} {ρ : Env} {d : Option Tmp} {ty : TypeId} {pos : String} {af : Array Edge} {g : Option (Nat × Bool)} {x y : Operand} {t t' : TypeId} {a b : List Value} {r : Bool} (h1 : Ev C.n ρ x (.agg a.toArray)) (h2 : Ev C.n ρ y (.agg b.toArray)) (hg : P.eqGuardType P.depth t = false) (he : EqAt P 10000 t (.agg a.toArray) (.agg b.toArray) r) :
    Rd P C hs ρ ⟨d, .binOp .eql t x y t', ty, pos, af, g⟩ (.bool r) :=
  Rd.cmp h1 h2 (fun w => run_eqGuardA hg w) fun w _ => by
    show (do pure (Value.bool (← Op.equalIn 10000 t _ _)) : Sem Value).run P w = _
    rw [Sem.run_bind, he w]; rfl
theorem eqgI : Try.prog.eqGuardType Try.prog.depth 74 = false := by kernel_rfl
theorem stoodI : Try.prog.stoodInHeld 74 = false := by kernel_rfl
theorem eqI (p q : It) : EqAt Try.prog 10000 74 (.agg [str p.1, str p.2].toArray) (.agg [str q.1, str q.2].toArray) (decide (p.1 = q.1) && decide (p.2 = q.2)) :=
  EqAt.s2 (P := Try.prog) (k := 9999) (xs := [str p.1, str p.2].toArray) (ys := [str q.1, str q.2].toArray) Try.runUnderlying74 stoodI (by decide) (by decide) (x1 := str p.1) (y1 := str q.1) (x2 := str p.2) (y2 := str q.2)
    (fun w => by simp only [part, Sem.run_bind, Try.isAgg9 w, Result.andThen]; rfl) (fun w => by simp only [part, Sem.run_bind, Try.isAgg9 w, Result.andThen]; rfl)
    (fun w => by simp only [part, Sem.run_bind, Try.isAgg9 w, Result.andThen]; rfl) (fun w => by simp only [part, Sem.run_bind, Try.isAgg9 w, Result.andThen]; rfl)
    (EqAt.strs Try.runUnderlying9 _ _) (EqAt.strs Try.runUnderlying9 _ _)
theorem eqI1 : EqAt Try.prog 10000 74 (.agg [str [97], str [49]].toArray) (.agg [str [97], str [49]].toArray) true := eqI ([97], [49]) ([97], [49])

set_option maxHeartbeats 1000000 in
theorem known_any  :
    Fn Try.prog 9 [] [] (X := Unit) (fun _ => True) (fun _ => .bool true) (fun _ => []) := by
 refine Fn.mk' (n := 86) (l := []) (fn := Try.f9) Try.func9 (by kernel_rfl) rfl rfl (by simp) rfl ?_
 intro h0 w0
 obtain ⟨w1, e1, w2, e2, w3, e3, w4, e4, m0, m1, m2, m3⟩ := k_all
 obtain ⟨k1, k2, k3, k4, k5, k6⟩ := k_rows
 have hn4 := none_of w4.pi.ok e4
 have hu4 := inL12_none w4.pi hn4
 have hr9 : rangeR [] [] 9 kW2.2.2.1 = kL := by rw [rangeR_law w2.pi.ok, e2, colL_every (fun e _ => inB_all e) (by decide)]; rfl
 have hx0 : (kL.map itc)[(0 : Int).toNat]? = some [str [97], str [49]] := rfl
 have hkl : kL.length = 2 := rfl
 refine J.sr ?_
 refine JL.as Ev.c ?_
 refine JL.n4 ?_
 refine JL.ef (Ef.call (.cons Ev.c .nil) (fresh_any 20 (by decide) (by decide)) (by repeat constructor) ?_)
 rintro ⟨d, m, t⟩ -
 simp only [cA, nA]
 refine JL.mv (t0 rfl) ?_
 refine JL.ex (t0 rfl) (by repeat constructor) ?_
 refine JL.ex (t1 rfl) (by repeat constructor) ?_
 refine JL.ef (Ef.alloc Try.zeroValue28 rfl ?_)
 intro b1
 refine JL.ef0 (Ef.stB Try.sizeOf28 (t0 rfl) (t2 rfl) (by repeat constructor) (by repeat constructor) (by first | rfl | assumption | simp_all) (by first | rfl | assumption | simp_all) (by first | exact bv_one _ | exact cons_one rfl (bv_one _) | (simp [Value.oneCell']; done) | (simp [Value.oneCell', str]; done)) (by decide) ?_)
 refine JL.as (t1 rfl) ?_
 refine JL.n5 ?_
 refine JL.mv (t0 rfl) ?_
 refine JL.rd (Rd.not (EvB (t0 rfl) rfl)) ?_
 refine JL.mv (t0 rfl) ?_
 refine JL.rdG rfl (EvB (t0 rfl) rfl) rfl ((by first | exact Rd.fld0 fld_28_2 (t4 rfl) | exact Rd.fld fld_28_2 (t4 rfl))) ?_
 refine JL.rdG rfl (EvB (t1 rfl) rfl) rfl (Rd.ldN Try.isAgg26 (t0 rfl) (by repeat constructor) (by repeat constructor)) ?_
 refine JL.efG rfl (EvB (t2 rfl) rfl) rfl (Ef.call (.cons (t0 rfl) (.cons Ev.c (.cons Ev.c .nil))) (put_w t d m 20 0 0 0 (newW 20) [98] [50] (new_wi (by decide)) (by decide) (by decide) m0) (by repeat constructor) ?_)
 rintro - -
 rw [show putC [98] [50] = 0 from rfl, show putW [98] [50] (newW 20) = kW1 from rfl]
 simp only [cA, nA]
 refine JL.rdG rfl (EvB (t3 rfl) rfl) rfl (Rd.neq (t0 rfl) Ev.c) ?_
 refine JL.rd (Rd.pickF (EvB (t4 rfl) rfl) (t0 rfl)) ?_
 refine JL.mv (t0 rfl) ?_
 refine JL.rdG rfl (EvB (t0 rfl) rfl) rfl ((by first | exact Rd.fld0 fld_28_2 (t10 rfl) | exact Rd.fld fld_28_2 (t10 rfl))) ?_
 refine JL.rdG rfl (EvB (t1 rfl) rfl) rfl (Rd.ldN Try.isAgg26 (t0 rfl) (by repeat constructor) (by repeat constructor)) ?_
 refine JL.efG rfl (EvB (t2 rfl) rfl) rfl (Ef.call (.cons (t0 rfl) (.cons Ev.c (.cons Ev.c .nil))) (put_w t d m 20 20 1 0 kW1 [97] [49] w1 (by decide) (by decide) m1) (by repeat constructor) ?_)
 rintro - -
 rw [show putC [97] [49] = 0 from rfl, show putW [97] [49] kW1 = kW2 from rfl]
 simp only [cA, nA]
 refine JL.rdG rfl (EvB (t3 rfl) rfl) rfl (Rd.neq (t0 rfl) Ev.c) ?_
 refine JL.rd (Rd.pickF (EvB (t4 rfl) rfl) (t0 rfl)) ?_
 refine JL.n2 ?_
 refine J.condF (EvB (t0 rfl) rfl) ?_
 refine J.k4 ?_
 refine JL.rd ((by first | exact Rd.fld0 fld_28_2 (t15 rfl) | exact Rd.fld fld_28_2 (t15 rfl))) ?_
 refine JL.rd (Rd.ldN Try.isAgg26 (t0 rfl) (by repeat constructor) (by repeat constructor)) ?_
 refine JL.ef (Ef.call (.cons (t0 rfl) (.cons Ev.c (.cons Ev.c (.cons Ev.c .nil)))) (range_any t d m kW2.1 3 kW2.2.1 kW2.2.2.1 [] [] 9 w2.live.2.1 (w2.pi.rhd (by rw [e2]; decide)) (by rw [e2]; decide)) (by repeat constructor) ?_)
 rintro ⟨ra, rc⟩ -
 rw [hr9]
 simp only [cA, nA]
 refine JL.mv (t0 rfl) ?_
 refine JL.ex (t0 rfl) (by repeat constructor) ?_
 refine JL.ex (t1 rfl) (by repeat constructor) ?_
 refine JL.as (t1 rfl) ?_
 refine JL.as (t1 rfl) ?_
 refine JL.ns ?_
 refine J.live (K := [(4, _), (3, _), (1, _), (0, _)]) ⟨lk0, (lk1 rfl), (lk23 rfl), (lk28 rfl), trivial⟩ ?_
 intro ρ2
 refine J.region ?_
 refine JL.rd ((by first | exact Rd.fld0 fld_28_2 (t2 rfl) | exact Rd.fld fld_28_2 (t2 rfl))) ?_
 refine JL.rd (Rd.ldN Try.isAgg26 (t0 rfl) (by repeat constructor) (by repeat constructor)) ?_
 refine JL.ef (Ef.call (.cons (t0 rfl) (.cons Ev.c .nil)) (del_w t d m 20 40 2 0 kW2 [97] w2 (by decide) (by decide) m2) (by repeat constructor) ?_)
 rintro - -
 rw [e2, k3, show delW [97] kW2 = kW3 from rfl]
 simp only [cA, nA]
 refine JL.mv (t0 rfl) ?_
 refine JL.ex (t0 rfl) (by repeat constructor) ?_
 refine JL.ex (t1 rfl) (by repeat constructor) ?_
 refine JL.as (t1 rfl) ?_
 refine JL.as (t1 rfl) ?_
 refine JL.n4 ?_
 refine JL.rd ((by first | exact Rd.fld0 fld_28_2 (t10 rfl) | exact Rd.fld fld_28_2 (t10 rfl))) ?_
 refine JL.rd (Rd.ldN Try.isAgg26 (t0 rfl) (by repeat constructor) (by repeat constructor)) ?_
 refine JL.ef (Ef.call (.cons (t0 rfl) (.cons Ev.c .nil)) (del_w t d m 20 60 3 0 kW3 [98] w3 (by decide) (by decide) m3) (by repeat constructor) ?_)
 rintro - -
 rw [e3, k5, show delW [98] kW3 = kW4 from rfl]
 simp only [cA, nA]
 refine JL.mv (t0 rfl) ?_
 refine JL.ex (t0 rfl) (by repeat constructor) ?_
 refine JL.ex (t1 rfl) (by repeat constructor) ?_
 refine JL.as (t1 rfl) ?_
 refine JL.as (t1 rfl) ?_
 refine JL.n4 ?_
 refine JL.mv (t16 rfl) ?_
 refine JL.rd (Rd.eql (t0 rfl) Ev.c) ?_
 refine JL.mv (t0 rfl) ?_
 refine JL.rdG rfl (EvB (t0 rfl) rfl) rfl (Rd.move (t20 rfl)) ?_
 refine JL.rdG rfl (EvB (t1 rfl) rfl) rfl (Rd.len Try.runUnderlying70 (t0 rfl)) ?_
 refine JL.rdG rfl (EvB (t2 rfl) rfl) rfl (Rd.eql (t0 rfl) Ev.c) ?_
 refine JL.rd (Rd.pickT (EvB (t3 rfl) rfl) (t0 rfl)) ?_
 refine JL.mv (t0 rfl) ?_
 refine JL.rdG rfl (EvB (t0 rfl) rfl) rfl (Rd.move (t25 rfl)) ?_
 refine JL.rdG rfl (EvB (t1 rfl) rfl) rfl (Rd.sIdx Try.runUnderlying70 Try.sizeOf74 (t0 rfl) Ev.c (Src.i (by repeat constructor)) (by first | (simp; done) | (simp; omega) | omega | (simp [*]; done) | (simp [*]; omega)) (by omega) (by omega)) ?_
 refine JL.rdG rfl (EvB (t2 rfl) rfl) rfl (Rd.sLdA Try.isAgg74 Try.sizeOf74 (t0 rfl) (Src.i (by repeat constructor)) hx0) ?_
 refine JL.rdG rfl (EvB (t3 rfl) rfl) rfl (Rd.buildS (.cons Ev.c (.cons Ev.c .nil)) bld_74 (by repeat (first | exact FillN.nil | apply FillN.one rfl rfl (by repeat constructor)))) ?_
 refine JL.rdG rfl (EvB (t4 rfl) rfl) rfl (Rd.eqlS (a := [str [97], str [49]]) (b := [str [97], str [49]]) (t1 rfl) (t0 rfl) eqgI eqI1) ?_
 refine JL.rd (Rd.pickT (EvB (t5 rfl) rfl) (t0 rfl)) ?_
 refine JL.mv (t0 rfl) ?_
 refine JL.rdG rfl (EvB (t0 rfl) rfl) rfl (Rd.move (t23 rfl)) ?_
 refine JL.rdG rfl (EvB (t1 rfl) rfl) rfl (Rd.eql (t0 rfl) Ev.c) ?_
 refine JL.rd (Rd.pickT (EvB (t2 rfl) rfl) (t0 rfl)) ?_
 refine JL.mv (t0 rfl) ?_
 refine JL.rdG rfl (EvB (t0 rfl) rfl) rfl (Rd.move (t28 rfl)) ?_
 refine JL.rd (Rd.pickT (EvB (t1 rfl) rfl) (t0 rfl)) ?_
 refine JL.mv (t0 rfl) ?_
 refine JL.rdG rfl (EvB (t0 rfl) rfl) rfl (Rd.move (t22 rfl)) ?_
 refine JL.rdG rfl (EvB (t1 rfl) rfl) rfl (Rd.eql (t0 rfl) Ev.c) ?_
 refine JL.rd (Rd.pickT (EvB (t2 rfl) rfl) (t0 rfl)) ?_
 refine JL.mv (t0 rfl) ?_
 refine JL.live (K := [(70, _), (7, _), (1, _), (0, _)]) ⟨lk0, (lk27 rfl), (lk44 rfl), (lk45 rfl), trivial⟩ ?_
 intro ρ3
 refine JL.rdG rfl (EvB (t0 rfl) rfl) rfl (Rd.move (t1 rfl)) ?_
 refine JL.rd (Rd.pickT (EvB (t1 rfl) rfl) (t0 rfl)) ?_
 refine JL.mv (t0 rfl) ?_
 refine JL.rdG rfl (EvB (t0 rfl) rfl) rfl ((by first | exact Rd.fld0 fld_28_2 (t5 rfl) | exact Rd.fld fld_28_2 (t5 rfl))) ?_
 refine JL.rdG rfl (EvB (t1 rfl) rfl) rfl (Rd.ldN Try.isAgg26 (t0 rfl) (by repeat constructor) (by repeat constructor)) ?_
 refine JL.efG rfl (EvB (t2 rfl) rfl) rfl (Ef.call (.cons (t0 rfl) .nil) (root_any t d m (rootI kW4.2.2.1)) (by repeat constructor) ?_)
 rintro - -
 rw [show rootI kW4.2.2.1 = -1 by rw [hn4]; rfl]
 simp only [cA, nA]
 refine JL.rdG rfl (EvB (t3 rfl) rfl) rfl (Rd.eql (t0 rfl) Ev.c) ?_
 refine JL.rd (Rd.pickT (EvB (t4 rfl) rfl) (t0 rfl)) ?_
 refine JL.mv (t0 rfl) ?_
 refine JL.rdG rfl (EvB (t0 rfl) rfl) rfl ((by first | exact Rd.fld0 fld_28_1 (t11 rfl) | exact Rd.fld fld_28_1 (t11 rfl))) ?_
 refine JL.rdG rfl (EvB (t1 rfl) rfl) rfl (Rd.ldN Try.isAgg25 (t0 rfl) (by repeat constructor) (by repeat constructor)) ?_
 refine JL.efG rfl (EvB (t2 rfl) rfl) rfl (Ef.call (.cons (t0 rfl) .nil) (mused_any m 3 kW4.2.1 (by rw [w4.len]; decide)) (by repeat constructor) ?_)
 rintro ⟨ua, uc⟩ -
 rw [hu4]
 simp only [cA, nA]
 refine JL.rdG rfl (EvB (t3 rfl) rfl) rfl (Rd.len Try.runUnderlying43 (t0 rfl)) ?_
 refine JL.rdG rfl (EvB (t4 rfl) rfl) rfl (Rd.eql (t0 rfl) Ev.c) ?_
 refine JL.rd (Rd.pickT (EvB (t5 rfl) rfl) (t0 rfl)) ?_
 refine JL.as (t0 rfl) ?_
 refine JL.nr ?_
 exact At.ret (()) (trivial) (ResV.one rfl (t0 rfl)) rfl (fun _ => Stars.sel (by repeat constructor))
end Go.Proofs.Ytbhladkbnleeoaa

namespace Go.Proofs.Ytbhladkbnleeoaa
set_option maxRecDepth 100000
attribute [local irreducible] J JL At Rd Ef DNew DCar DRun Then RetQ LoopQ


end Go.Proofs.Ytbhladkbnleeoaa

namespace Go.Proofs.Ytbhladkbnleeoaa

/-! ### a failure of the power -/
def putG (key val : Bs) (W : Ws) : Int := if putC key val = 0 then (putA key val W).2.1 else putC key val
theorem space_step {n N k : Nat} {W : Ws} {key val : Bs} (h : WI n N k 0 W) (hN : N ≤ 500000) (hk : k ≤ 1000) :
    (putC key val ≠ 0 ∧ putG key val W = putC key val ∧ putW key val W = W ∧ WI n (N + n) (k + 1) 0 W) ∨
    (putC key val = 0 ∧ putG key val W = 0 ∧ WI n (N + n) (k + 1) 0 (putW key val W) ∧ entR (putW key val W).2.2.1 = putL key val (entR W.2.2.1)) ∨
    (putC key val = 0 ∧ putG key val W = 26 ∧ frS W.2.1 < 3 * hgtR W.2.2.1 + 1 ∧ (putW key val W).2.1 = W.2.1 ∧ (putW key val W).2.2.1 = W.2.2.1 ∧ WI n (N + n) (k + 1) 0 ((putW key val W).1, W.2.1, W.2.2.1, (putW key val W).2.2.2)) := by
  unfold putG
  by_cases hc : putC key val = 0
  · rw [if_pos hc]
    have hk0 : key ≠ [] := fun e => by rw [e] at hc; exact absurd hc (show ¬ ((4 : Int) = 0) by decide)
    have hl : ¬ (112 < key.length ∨ 360 < val.length) := fun e => by rw [putC_long hk0 e] at hc; exact absurd hc (by decide)
    have hp : putW key val W = apW W (putA key val W) := if_pos hc
    obtain ⟨_, _, _, a4, a5, a6, a7⟩ := wi_apply h hN hk (put_item hk0 hl) (Nat.le_refl 1) (fun e he => by obtain rfl := List.mem_singleton.1 he; rfl) (A := putA key val W) rfl
    rw [hp]
    by_cases h0 : (putA key val W).2.1 = 0
    · refine .inr (.inl ⟨hc, h0, a4, ?_⟩)
      unfold putL
      rw [if_pos hc]
      exact a6 h0
    · obtain ⟨b1, b2⟩ := a5 h0
      rcases a7 with a7 | ⟨a7, a8⟩
      · exact absurd a7 h0
      · refine .inr (.inr ⟨hc, a7, a8, b1, b2, ?_⟩)
        have e1 : (apW W (putA key val W)).2.1 = W.2.1 := b1
        have e2 : (apW W (putA key val W)).2.2.1 = W.2.2.1 := b2
        rw [← e1, ← e2]
        exact a4
  · rw [if_neg hc]
    exact .inl ⟨hc, rfl, if_neg hc, h.mono (by omega) (by omega) (by omega)⟩
theorem frS_inL (s : Bs) : (inL s [0]).length = frS s := by
  have hgo : ∀ n, n ≤ s.length → (selL (inP s [0]) n).length = frS (s.take n) := by
    intro n
    induction n with
    | zero => intro _; simp [frS, selL]
    | succ n ih =>
      intro hn
      obtain ⟨c, hc⟩ : ∃ c, s[n]? = some c := ⟨_, List.getElem?_eq_getElem (by omega)⟩
      have hg : s.getD n 0 = c := getD_of hc
      have h2 : frS (s.take n ++ [c]) = frS (s.take n) + if c = 0 then 1 else 0 := by
        unfold frS
        rw [List.countP_append, List.countP_singleton]
        simp
      rw [selL_succ, take_step hc, List.length_append, ih (by omega), h2]
      have hP : inP s [0] n = decide (c = 0) := by
        unfold inP
        rw [hg]
        refine decide_eq_decide.2 ?_
        simp only [List.mem_singleton]
        exact ⟨fun h => UInt8.toNat_inj.1 (by show _ = 0; omega), fun h => by rw [h]; rfl⟩
      rw [hP]
      by_cases h0 : c = 0 <;> simp [h0]
  have := hgo s.length (Nat.le_refl _)
  rwa [List.take_length] at this
end Go.Proofs.Ytbhladkbnleeoaa

namespace Go.Proofs.Ytbhladkbnleeoaa
set_option maxRecDepth 100000
attribute [local irreducible] J JL At Rd Ef DNew DCar DRun Then RetQ LoopQ


theorem put_g (t d m : Nat) (W : Ws) (key val : Bs) (P : PI 3 W.1 W.2.1 W.2.2.1 W.2.2.2) (hR : RHd 3 W.1 W.2.1 W.2.2.1) (hs : StOk ⟨W.1, W.2.1, [], []⟩) : Fn Try.prog 27 [.pointer (some ⟨t, 0, none⟩), str key, str val] [pts t (.cells [.pointer (some ⟨d, 0, none⟩), .pointer (some ⟨m, 0, none⟩), .int .i64 (rootI W.2.2.1)].toArray 77), dk d W.1, bm m 3 W.2.1] (X := Unit) (fun _ => True) (fun _ => .int .i64 (putG key val W)) (fun _ => [pts t (.cells [.pointer (some ⟨d, 0, none⟩), .pointer (some ⟨m, 0, none⟩), .int .i64 (rootI (putW key val W).2.2.1)].toArray 77), dk d (putW key val W).1, bm m 3 (putW key val W).2.1]) := put_gen t d m W key val P hR hs

end Go.Proofs.Ytbhladkbnleeoaa

namespace Go.Proofs.Ytbhladkbnleeoaa
set_option maxRecDepth 100000
attribute [local irreducible] J JL At Rd Ef DNew DCar DRun Then RetQ LoopQ


set_option maxHeartbeats 1000000 in
theorem space_any (b : UInt8) (a : Option Addr) (cap : Nat) (l : List OpR) (_ : l.length ≤ 9223372036854775807) (hok : ∀ o ∈ l, o.ok) :
    Fn Try.prog 7 [.int .u8 (b.toNat : Int), .slice a l.length cap] [rowR a 7 (l.map opR)] (X := Unit) (fun _ => True) (fun _ => .bool true) (fun _ => []) := by
 refine Fn.mk' (n := 124) (l := [(0, .int .u8 (b.toNat : Int)), (1, .slice a l.length cap)]) (fn := Try.f7) Try.func7 (by kernel_rfl) rfl rfl (by simp) rfl ?_
 intro h0 w0
 refine J.sr ?_
 refine JL.as Ev.c ?_
 refine JL.n5 ?_
 refine JL.ef (Ef.call .nil (known_any) (by repeat constructor) ?_)
 rintro - -
 simp only [nA]
 refine JL.rd (Rd.not (EvB (t0 rfl) rfl)) ?_
 refine JL.n2 ?_
 refine J.condF (EvB (t0 rfl) rfl) ?_
 refine J.skip ?_
 refine At.next ?_
 refine J.seq ?_
 obtain ⟨q, hq⟩ : ∃ q, q = 1 + b.toNat % 40 := ⟨_, rfl⟩
 refine J.region ?_
 refine JL.mv (t3 rfl) ?_
 refine JL.rd (Rd.rem (t0 rfl) Ev.c (by omega) (by omega)) ?_
 refine JL.rd (Rd.conv (t0 rfl) (fun w => ⟨_, Try.runUnderlying5 w⟩) Try.runUnderlying3 (w64 (by omega) (by omega))) ?_
 refine JL.rd (Rd.add Ev.c (t0 rfl) (w64 (by omega) (by omega))) ?_
 rw [show (1 + (b.toNat : Int) % 40) = (q : Int) by omega]
 refine JL.ef (Ef.call (.cons (t0 rfl) .nil) (fresh_any q (by omega) (by omega)) (by repeat constructor) ?_)
 rintro ⟨d, m, t⟩ -
 simp only [cA, nA]
 refine JL.mv (t0 rfl) ?_
 refine JL.ex (t0 rfl) (by repeat constructor) ?_
 refine JL.ex (t1 rfl) (by repeat constructor) ?_
 refine JL.ef (Ef.alloc Try.zeroValue28 rfl ?_)
 intro b1
 refine JL.ef0 (Ef.stB Try.sizeOf28 (t0 rfl) (t2 rfl) (by repeat constructor) (by repeat constructor) (by first | rfl | assumption | simp_all) (by first | rfl | assumption | simp_all) (by first | exact bv_one _ | exact cons_one rfl (bv_one _) | (simp [Value.oneCell']; done) | (simp [Value.oneCell', str]; done)) (by decide) ?_)
 refine JL.as (t1 rfl) ?_
 refine JL.n5 ?_
 refine JL.mv (t0 rfl) ?_
 refine JL.rd (Rd.not (EvB (t0 rfl) rfl)) ?_
 refine JL.n2 ?_
 refine J.condF (EvB (t0 rfl) rfl) ?_
 refine J.k4 ?_
 refine JL.as Ev.c ?_
 refine JL.n5 ?_
 refine JL.as Ev.c ?_
 refine JL.nb ?_
 refine J.loop (X := Nat × (Option Addr × Nat) × Ws) (fun (x : Nat × (Option Addr × Nat) × Ws) => [(8, .int .i64 (x.1 : Int)), (7, .slice x.2.1.1 (entR x.2.2.2.2.1).length x.2.1.2)]) (K := [(5, _), (4, _), (1, _)]) (fun x => [pts b1 (.cells [.pointer (some ⟨d, 0, none⟩), .pointer (some ⟨m, 0, none⟩), .pointer (some ⟨t, 0, none⟩)].toArray 28), pts t (.cells [.pointer (some ⟨d, 0, none⟩), .pointer (some ⟨m, 0, none⟩), .int .i64 (rootI x.2.2.2.2.1)].toArray 77), dk d x.2.2.1, bm m 3 x.2.2.2.1, rowR x.2.1.1 2 ((entR x.2.2.2.2.1).map itc), rowR a 7 (l.map opR)]) (fun x => x.1 ≤ l.length ∧ x.1 ≤ 40 ∧ WI q (300 * x.1) x.1 0 x.2.2 ∧ (entR x.2.2.2.2.1).length ≤ x.2.1.2) (fun x => 40 - x.1) ((0, (none, 0), newW q)) ?_ ⟨lk0.trans (by first | (rfl; done) | with_reducible rfl | (congr 1; omega) | (simp; done) | (simp [*]; done)), (lk1 rfl).trans (by first | (rfl; done) | with_reducible rfl | (congr 1; omega) | (simp; done) | (simp [*]; done)), trivial⟩ ⟨(lk5 rfl), (lk16 rfl), (lk18 rfl), trivial⟩ (fun _ s => by have s1 := rowR_nil none 2 s; exact Stars.sel (by repeat constructor) s1) ?_
 exact ⟨Nat.zero_le _, Nat.zero_le _, new_wi (by omega), Nat.zero_le _⟩
 rintro ⟨i, ⟨ra, rc⟩, W⟩ ρ ⟨hk, hk2, hwi, hrc⟩
 simp only [cA, nA]
 dsimp only at hk hk2 hwi hrc ⊢
 have hrows := hwi.rows
 have hwl := hwi.len
 have hH6 := hgt_le (H := 6) (k := 40) hwi.pi.ok (by omega) (by decide)
 refine J.seq ?_
 refine J.sr ?_
 refine JL.mv (t0 rfl) ?_
 refine JL.mv (t5 rfl) ?_
 refine JL.rd (Rd.len Try.runUnderlying22 (t0 rfl)) ?_
 refine JL.rd (Rd.lss (t2 rfl) (t0 rfl)) ?_
 refine JL.mv (t0 rfl) ?_
 refine JL.caseD (t0 rfl) ?_ ?_
 intro hb2p hb2
 refine JL.rdG rfl (EvB (t0 rfl) hb2) rfl (Rd.move (t5 rfl)) ?_
 refine JL.rdG rfl (EvB (t1 rfl) hb2) rfl (Rd.lss (t0 rfl) Ev.c) ?_
 refine JL.rd (Rd.pickT (EvB (t2 rfl) hb2) (t0 rfl)) ?_
 refine JL.n2 ?_
 refine J.condD (t0 rfl) ?_ ?_
 intro hc3
 refine J.skip ?_
 refine At.next ?_
 refine J.seq ?_
 refine J.block ?_
 refine J.seq ?_
 obtain ⟨o, hlo⟩ : ∃ o, l[i]? = some o := ⟨_, List.getElem?_eq_getElem (by omega)⟩
 have hx : (l.map opR)[(i : Int).toNat]? = some (opR o) := by simp [hlo]
 obtain ⟨V, hVe⟩ : ∃ V, V = putW (keyF o) (valF o) W := ⟨_, rfl⟩
 have hsp := space_step (key := keyF o) (val := valF o) hwi (by omega) (by omega)
 rw [← hVe] at hsp
 refine J.region ?_
 refine JL.rd ((by first | exact Rd.fld0 fld_28_2 (t10 rfl) | exact Rd.fld fld_28_2 (t10 rfl))) ?_
 refine JL.rd (Rd.ldN Try.isAgg26 (t0 rfl) (by repeat constructor) (by repeat constructor)) ?_
 refine JL.ef (Ef.call (.cons (t0 rfl) .nil) (height_any t d m W.1 W.2.2.1 (hwi.pi.rhd (by omega)).hr walkRok_hgt) (by repeat constructor) ?_)
 rintro - -
 rw [walkR_hgt hwi.pi.ok hwi.pi.hd hwi.live.2.1]
 dsimp only
 rw [if_pos rfl]
 simp only [cA, nA]
 refine JL.mv (t0 rfl) ?_
 refine JL.ex (t0 rfl) (by repeat constructor) ?_
 refine JL.ex (t1 rfl) (by repeat constructor) ?_
 refine JL.as (t1 rfl) ?_
 refine JL.as (t1 rfl) ?_
 refine JL.n4 ?_
 refine JL.rd ((by first | exact Rd.fld0 fld_28_1 (t18 rfl) | exact Rd.fld fld_28_1 (t18 rfl))) ?_
 refine JL.rd (Rd.ldN Try.isAgg25 (t0 rfl) (by repeat constructor) (by repeat constructor)) ?_
 refine JL.ef (Ef.call (.cons (t0 rfl) (.cons Ev.c .nil)) (number_m m 3 W.2.1 0 (by omega)) (by repeat constructor) ?_)
 rintro - -
 rw [frS_inL]
 simp only [cA, nA]
 refine JL.as (t0 rfl) ?_
 refine JL.n4 ?_
 refine JL.rd ((by first | exact Rd.fld0 fld_28_1 (t22 rfl) | exact Rd.fld fld_28_1 (t22 rfl))) ?_
 refine JL.rd (Rd.ldN Try.isAgg25 (t0 rfl) (by repeat constructor) (by repeat constructor)) ?_
 refine JL.ef (Ef.call (.cons (t0 rfl) .nil) (mclone_any m 3 W.2.1) (by repeat constructor) ?_)
 rintro mc -
 simp only [cA, nA]
 refine JL.as (t0 rfl) ?_
 refine JL.ns ?_
 refine J.live (K := [(12, _), (11, _), (10, _), (9, _), (8, _), (7, _), (5, _), (4, _), (1, _)]) ⟨lk0, (lk4 rfl), (lk8 rfl), (lk9 rfl), (lk24 rfl), (lk25 rfl), (lk26 rfl), (lk27 rfl), (lk28 rfl), trivial⟩ ?_
 intro ρ4
 refine J.region ?_
 refine JL.rd ((by first | exact Rd.fld0 fld_28_2 (t6 rfl) | exact Rd.fld fld_28_2 (t6 rfl))) ?_
 refine JL.rd (Rd.ldN Try.isAgg26 (t0 rfl) (by repeat constructor) (by repeat constructor)) ?_
 refine JL.ef (Ef.call (.cons (t0 rfl) .nil) (root_any t d m (rootI W.2.2.1)) (by repeat constructor) ?_)
 rintro - -
 simp only [cA, nA]
 refine JL.as (t0 rfl) ?_
 refine JL.ns ?_
 refine J.draw [⟨false, 0, 2⟩, ⟨false, 0, 0⟩, ⟨false, 0, 0⟩, ⟨false, 0, 0⟩, ⟨false, 0, 0⟩, ⟨true, 0, 0⟩, ⟨false, 0, 1⟩, ⟨false, 0, 1⟩, ⟨false, 0, 1⟩, ⟨false, 0, 1⟩, ⟨true, 1, 1⟩, ⟨true, 2, 2⟩, ⟨false, 3, 3⟩, ⟨false, 3, 3⟩, ⟨false, 3, 3⟩, ⟨false, 3, 3⟩, ⟨false, 3, 3⟩] [5, 10, 11] mixed rfl ?_
 refine DRun.at [] [0, 1, 2, 3, 4, 6, 7, 8, 9] rfl rfl ?_ ?_
 exact .nil
 refine DNew.rd rfl (Rd.move (t9 rfl)) ?_
 refine DNew.rd rfl (Rd.move (t13 rfl)) ?_
 refine DNew.rd rfl (Rd.move (t10 rfl)) ?_
 refine DNew.rd rfl (Rd.sIdx Try.runUnderlying22 Try.sizeOf47 (t1 rfl) (t0 rfl) (Src.i (by repeat constructor)) (by first | (simp; done) | (simp; omega) | omega | (simp [*]; done) | (simp [*]; omega)) (by omega) (by omega)) ?_
 refine DNew.rd rfl (Rd.sLdA Try.isAgg47 Try.sizeOf47 (t0 rfl) (Src.i (by repeat constructor)) hx) ?_
 refine DNew.rd rfl (Rd.move (t17 rfl)) ?_
 refine DNew.rd rfl (Rd.move (t14 rfl)) ?_
 refine DNew.rd rfl (Rd.sIdx Try.runUnderlying22 Try.sizeOf47 (t1 rfl) (t0 rfl) (Src.i (by repeat constructor)) (by first | (simp; done) | (simp; omega) | omega | (simp [*]; done) | (simp [*]; omega)) (by omega) (by omega)) ?_
 refine DNew.rd rfl (Rd.sLdA Try.isAgg47 Try.sizeOf47 (t0 rfl) (Src.i (by repeat constructor)) hx) ?_
 refine DNew.nil ?_
 refine DRun.ef rfl (Ef.call (.cons (t4 rfl) .nil) (key_any o (hok o (List.mem_of_getElem? hlo))) (by repeat constructor) ?_)
 rintro - -
 simp only [nA]
 refine DRun.at [0, 6, 7, 8, 9] [] rfl rfl ?_ ?_
 refine DCar.rd rfl (lk9 rfl) (Rd.move (t19 rfl)) ?_
 refine DCar.rd rfl (lk4 rfl) (Rd.move (t22 rfl)) ?_
 refine DCar.rd rfl (lk3 rfl) (Rd.move (t18 rfl)) ?_
 refine DCar.rd rfl (lk2 rfl) (Rd.sIdx Try.runUnderlying22 Try.sizeOf47 (t4 rfl) (t3 rfl) (Src.i (by repeat constructor)) (by first | (simp; done) | (simp; omega) | omega | (simp [*]; done) | (simp [*]; omega)) (by omega) (by omega)) ?_
 refine DCar.rd rfl (lk1 rfl) (Rd.sLdA Try.isAgg47 Try.sizeOf47 (t2 rfl) (Src.i (by repeat constructor)) hx) ?_
 exact .nil
 refine DNew.nil ?_
 refine DRun.ef rfl (Ef.call (.cons (t1 rfl) .nil) (value_any o (hok o (List.mem_of_getElem? hlo))) (by repeat constructor) ?_)
 rintro - -
 simp only [nA]
 refine DRun.at [0] [] rfl rfl ?_ ?_
 refine DCar.rd rfl (lk10 rfl) (Rd.move (t20 rfl)) ?_
 exact .nil
 refine DNew.nil ?_
 refine DRun.ef rfl (Ef.call (.cons (t10 rfl) (.cons (t1 rfl) (.cons (t0 rfl) .nil))) (rput_all ra rc (entR W.2.2.1) (keyF o) (valF o) hrc (by omega)) (by repeat constructor) ?_)
 rintro ⟨ya, yc⟩ hyc
 simp only [cA, nA]
 refine DRun.end [] [12, 13, 14, 15, 16] rfl rfl ?_ ?_
 exact .nil
 refine DNew.rd rfl (Rd.move (t0 rfl)) ?_
 refine DNew.rd rfl (Rd.extract (t0 rfl) (by repeat constructor)) ?_
 refine DNew.rd rfl (Rd.extract (t1 rfl) (by repeat constructor)) ?_
 refine DNew.rd rfl (Rd.assign (t1 rfl)) ?_
 refine DNew.rd rfl (Rd.assign (t1 rfl)) ?_
 refine DNew.n2 ?_
 refine J.seq ?_
 refine J.live (K := [(15, _), (14, _), (13, _), (12, _), (11, _), (10, _), (9, _), (8, _), (7, _), (5, _), (4, _), (1, _)]) ⟨lk0, (lk1 rfl), (lk17 rfl), (lk21 rfl), (lk22 rfl), (lk23 rfl), (lk24 rfl), (lk25 rfl), (lk26 rfl), (lk27 rfl), (lk28 rfl), (lk29 rfl), trivial⟩ ?_
 intro ρ5
 refine J.draw [⟨false, 0, 2⟩, ⟨false, 0, 2⟩, ⟨false, 0, 0⟩, ⟨false, 0, 0⟩, ⟨false, 0, 0⟩, ⟨false, 0, 0⟩, ⟨true, 0, 0⟩, ⟨false, 0, 1⟩, ⟨false, 0, 1⟩, ⟨false, 0, 1⟩, ⟨false, 0, 1⟩, ⟨true, 1, 1⟩, ⟨true, 2, 2⟩, ⟨false, 3, 3⟩] [6, 11, 12] mixed rfl ?_
 refine DRun.at [] [0, 1, 2, 3, 4, 5, 7, 8, 9, 10] rfl rfl ?_ ?_
 exact .nil
 refine DNew.rd rfl ((by first | exact Rd.fld0 fld_28_2 (t9 rfl) | exact Rd.fld fld_28_2 (t9 rfl))) ?_
 refine DNew.rd rfl (Rd.ldN Try.isAgg26 (t0 rfl) (by repeat constructor) (by repeat constructor)) ?_
 refine DNew.rd rfl (Rd.move (t13 rfl)) ?_
 refine DNew.rd rfl (Rd.move (t10 rfl)) ?_
 refine DNew.rd rfl (Rd.sIdx Try.runUnderlying22 Try.sizeOf47 (t1 rfl) (t0 rfl) (Src.i (by repeat constructor)) (by first | (simp; done) | (simp; omega) | omega | (simp [*]; done) | (simp [*]; omega)) (by omega) (by omega)) ?_
 refine DNew.rd rfl (Rd.sLdA Try.isAgg47 Try.sizeOf47 (t0 rfl) (Src.i (by repeat constructor)) hx) ?_
 refine DNew.rd rfl (Rd.move (t17 rfl)) ?_
 refine DNew.rd rfl (Rd.move (t14 rfl)) ?_
 refine DNew.rd rfl (Rd.sIdx Try.runUnderlying22 Try.sizeOf47 (t1 rfl) (t0 rfl) (Src.i (by repeat constructor)) (by first | (simp; done) | (simp; omega) | omega | (simp [*]; done) | (simp [*]; omega)) (by omega) (by omega)) ?_
 refine DNew.rd rfl (Rd.sLdA Try.isAgg47 Try.sizeOf47 (t0 rfl) (Src.i (by repeat constructor)) hx) ?_
 refine DNew.nil ?_
 refine DRun.ef rfl (Ef.call (.cons (t4 rfl) .nil) (key_any o (hok o (List.mem_of_getElem? hlo))) (by repeat constructor) ?_)
 rintro - -
 simp only [nA]
 refine DRun.at [0, 1, 7, 8, 9, 10] [] rfl rfl ?_ ?_
 refine DCar.rd rfl (lk10 rfl) ((by first | exact Rd.fld0 fld_28_2 (t20 rfl) | exact Rd.fld fld_28_2 (t20 rfl))) ?_
 refine DCar.rd rfl (lk9 rfl) (Rd.ldN Try.isAgg26 (t10 rfl) (by repeat constructor) (by repeat constructor)) ?_
 refine DCar.rd rfl (lk4 rfl) (Rd.move (t22 rfl)) ?_
 refine DCar.rd rfl (lk3 rfl) (Rd.move (t18 rfl)) ?_
 refine DCar.rd rfl (lk2 rfl) (Rd.sIdx Try.runUnderlying22 Try.sizeOf47 (t4 rfl) (t3 rfl) (Src.i (by repeat constructor)) (by first | (simp; done) | (simp; omega) | omega | (simp [*]; done) | (simp [*]; omega)) (by omega) (by omega)) ?_
 refine DCar.rd rfl (lk1 rfl) (Rd.sLdA Try.isAgg47 Try.sizeOf47 (t2 rfl) (Src.i (by repeat constructor)) hx) ?_
 exact .nil
 refine DNew.nil ?_
 refine DRun.ef rfl (Ef.call (.cons (t1 rfl) .nil) (value_any o (hok o (List.mem_of_getElem? hlo))) (by repeat constructor) ?_)
 rintro - -
 simp only [nA]
 refine DRun.at [0, 1] [] rfl rfl ?_ ?_
 refine DCar.rd rfl (lk11 rfl) ((by first | exact Rd.fld0 fld_28_2 (t21 rfl) | exact Rd.fld fld_28_2 (t21 rfl))) ?_
 refine DCar.rd rfl (lk10 rfl) (Rd.ldN Try.isAgg26 (t11 rfl) (by repeat constructor) (by repeat constructor)) ?_
 exact .nil
 refine DNew.nil ?_
 refine DRun.ef rfl (Ef.call (.cons (t10 rfl) (.cons (t1 rfl) (.cons (t0 rfl) .nil))) (put_g t d m W (keyF o) (valF o) hwi.pi (hwi.pi.rhd (by omega)) (hwi.stok (by omega))) (by repeat constructor) ?_)
 rintro - -
 simp only [cA, nA]
 refine DRun.end [] [13] rfl rfl ?_ ?_
 exact .nil
 refine DNew.rd rfl (Rd.assign (t0 rfl)) ?_
 refine DNew.n2 ?_
 refine J.seq ?_
 refine J.block ?_
 refine J.seq ?_
 rw [← hVe]
 rcases hsp with ⟨hpc, hpg, hpw, hU⟩ | ⟨hpc, hpg, hU, hpr⟩ | ⟨hpc, hpg, hpf, hps, hpr, hU⟩
 rw [hpg, hpw]
 refine J.region ?_
 refine JL.mv (t19 rfl) ?_
 refine JL.rd (Rd.neq (t0 rfl) Ev.c) ?_
 refine JL.as (t0 rfl) ?_
 refine JL.n2 ?_
 refine J.condF (EvB (t0 rfl) rfl) ?_
 refine J.seq ?_
 refine J.live (K := [(16, _), (15, _), (14, _), (13, _), (12, _), (11, _), (9, _), (8, _), (7, _), (5, _), (4, _), (1, _)]) ⟨(lk3 rfl), (lk17 rfl), (lk18 rfl), (lk19 rfl), (lk20 rfl), (lk21 rfl), (lk23 rfl), (lk24 rfl), (lk25 rfl), (lk26 rfl), (lk27 rfl), (lk28 rfl), trivial⟩ ?_
 intro ρ6
 refine J.region ?_
 refine JL.mv (t1 rfl) ?_
 refine JL.rd (Rd.neq (t0 rfl) Ev.c) ?_
 refine JL.as (t0 rfl) ?_
 refine JL.n2 ?_
 refine J.condT (EvB (t0 rfl) (by first | exact decide_eq_true (by omega) | exact decide_eq_false (by omega))) ?_
 refine J.sr ?_
 refine JL.mv (t3 rfl) ?_
 refine JL.mv (t5 rfl) ?_
 refine JL.rd (Rd.neq (t1 rfl) (t0 rfl)) ?_
 refine JL.n2 ?_
 refine J.condF (EvB (t0 rfl) (decide_eq_false (fun h => h rfl))) ?_
 refine J.skip ?_
 refine At.blkN ?_
 refine At.next ?_
 refine J.sr ?_
 refine JL.rd ((by first | exact Rd.fld0 fld_28_2 (t15 rfl) | exact Rd.fld fld_28_2 (t15 rfl))) ?_
 refine JL.rd (Rd.ldN Try.isAgg26 (t0 rfl) (by repeat constructor) (by repeat constructor)) ?_
 refine JL.mv (t16 rfl) ?_
 refine JL.ef (Ef.call (.cons (t1 rfl) (.cons (t0 rfl) .nil)) (all_any t d m 3 W.1 W.2.1 W.2.2.1 hU.pi.ok hU.pi.hd (hU.pi.rhd (by have := hU.rows; omega)) hU.live.2.1 (by have := hU.rows; omega) ra rc (entR W.2.2.1) (by have := hU.rows; omega)) (by repeat constructor) ?_)
 rintro - -
 rw [decide_eq_true rfl]
 simp only [cA, nA]
 refine JL.rd (Rd.not (EvB (t0 rfl) rfl)) ?_
 refine JL.n2 ?_
 refine J.condF (EvB (t0 rfl) rfl) ?_
 refine J.skip ?_
 refine At.blkN ?_
 refine At.next ?_
 refine J.region ?_
 refine JL.mv (t18 rfl) ?_
 refine JL.rd (Rd.add (t0 rfl) Ev.c (w64 (by omega) (by omega))) ?_
 refine JL.as (t0 rfl) ?_
 refine JL.nil ?_
 refine At.again ((i + 1, (ra, rc), W)) ?_ ?_ ⟨lk0.trans (by first | (rfl; done) | with_reducible rfl | (congr 1; omega) | (simp; done) | (simp [*]; done)), (lk22 rfl).trans (by first | (rfl; done) | with_reducible rfl | (congr 1; omega) | (simp; done) | (simp [*]; done)), trivial⟩ ⟨(lk23 rfl), (lk24 rfl), (lk25 rfl), trivial⟩ (fun _ => Stars.sel (by repeat constructor))
 exact ⟨by show i + 1 ≤ l.length; omega, by show i + 1 ≤ 40; omega, hU.mono (by omega) (Nat.le_refl _) (Nat.le_refl _), by first | assumption | exact hyc⟩
 show 40 - (i + 1) < 40 - i; omega
 rw [hpg, ← hpr]
 rw [← hpr] at hyc
 refine J.region ?_
 refine JL.mv (t19 rfl) ?_
 refine JL.rd (Rd.neq (t0 rfl) Ev.c) ?_
 refine JL.as (t0 rfl) ?_
 refine JL.n2 ?_
 refine J.condF (EvB (t0 rfl) rfl) ?_
 refine J.seq ?_
 refine J.live (K := [(16, _), (15, _), (14, _), (13, _), (12, _), (11, _), (9, _), (8, _), (7, _), (5, _), (4, _), (1, _)]) ⟨(lk3 rfl), (lk17 rfl), (lk18 rfl), (lk19 rfl), (lk20 rfl), (lk21 rfl), (lk23 rfl), (lk24 rfl), (lk25 rfl), (lk26 rfl), (lk27 rfl), (lk28 rfl), trivial⟩ ?_
 intro ρ7
 refine J.region ?_
 refine JL.mv (t1 rfl) ?_
 refine JL.rd (Rd.neq (t0 rfl) Ev.c) ?_
 refine JL.as (t0 rfl) ?_
 refine JL.n2 ?_
 refine J.condF (EvB (t0 rfl) (by first | exact decide_eq_true (by omega) | exact decide_eq_false (by omega))) ?_
 refine J.sr ?_
 refine JL.mv (t3 rfl) ?_
 refine JL.rd (Rd.eql (t0 rfl) Ev.c) ?_
 refine JL.as (t0 rfl) ?_
 refine JL.n2 ?_
 refine J.condT (EvB (t0 rfl) rfl) ?_
 refine J.region ?_
 refine JL.mv (t8 rfl) ?_
 refine JL.as (t0 rfl) ?_
 refine JL.nil ?_
 refine At.blkN ?_
 refine At.next ?_
 refine J.sr ?_
 refine JL.rd ((by first | exact Rd.fld0 fld_28_2 (t17 rfl) | exact Rd.fld fld_28_2 (t17 rfl))) ?_
 refine JL.rd (Rd.ldN Try.isAgg26 (t0 rfl) (by repeat constructor) (by repeat constructor)) ?_
 refine JL.mv (t2 rfl) ?_
 refine JL.ef (Ef.call (.cons (t1 rfl) (.cons (t0 rfl) .nil)) (all_any t d m 3 V.1 V.2.1 V.2.2.1 hU.pi.ok hU.pi.hd (hU.pi.rhd (by have := hU.rows; omega)) hU.live.2.1 (by have := hU.rows; omega) ya yc (entR V.2.2.1) (by have := hU.rows; omega)) (by repeat constructor) ?_)
 rintro - -
 rw [decide_eq_true rfl]
 simp only [cA, nA]
 refine JL.rd (Rd.not (EvB (t0 rfl) rfl)) ?_
 refine JL.n2 ?_
 refine J.condF (EvB (t0 rfl) rfl) ?_
 refine J.skip ?_
 refine At.blkN ?_
 refine At.next ?_
 refine J.region ?_
 refine JL.mv (t20 rfl) ?_
 refine JL.rd (Rd.add (t0 rfl) Ev.c (w64 (by omega) (by omega))) ?_
 refine JL.as (t0 rfl) ?_
 refine JL.nil ?_
 refine At.again ((i + 1, (ya, yc), V)) ?_ ?_ ⟨lk0.trans (by first | (rfl; done) | with_reducible rfl | (congr 1; omega) | (simp; done) | (simp [*]; done)), (lk8 rfl).trans (by first | (rfl; done) | with_reducible rfl | (congr 1; omega) | (simp; done) | (simp [*]; done)), trivial⟩ ⟨(lk25 rfl), (lk26 rfl), (lk27 rfl), trivial⟩ (fun _ => Stars.sel (by repeat constructor))
 exact ⟨by show i + 1 ≤ l.length; omega, by show i + 1 ≤ 40; omega, hU.mono (by omega) (Nat.le_refl _) (Nat.le_refl _), by first | assumption | exact hyc⟩
 show 40 - (i + 1) < 40 - i; omega
 rw [hpg, hps, hpr]
 refine J.region ?_
 refine JL.mv (t19 rfl) ?_
 refine JL.rd (Rd.neq (t0 rfl) Ev.c) ?_
 refine JL.as (t0 rfl) ?_
 refine JL.n2 ?_
 refine J.condF (EvB (t0 rfl) rfl) ?_
 refine J.seq ?_
 refine J.live (K := [(16, _), (15, _), (14, _), (13, _), (12, _), (11, _), (9, _), (8, _), (7, _), (5, _), (4, _), (1, _)]) ⟨(lk3 rfl), (lk17 rfl), (lk18 rfl), (lk19 rfl), (lk20 rfl), (lk21 rfl), (lk23 rfl), (lk24 rfl), (lk25 rfl), (lk26 rfl), (lk27 rfl), (lk28 rfl), trivial⟩ ?_
 intro ρ8
 refine J.region ?_
 refine JL.mv (t1 rfl) ?_
 refine JL.rd (Rd.neq (t0 rfl) Ev.c) ?_
 refine JL.as (t0 rfl) ?_
 refine JL.n2 ?_
 refine J.condF (EvB (t0 rfl) (by first | exact decide_eq_true (by omega) | exact decide_eq_false (by omega))) ?_
 refine J.sr ?_
 refine JL.mv (t3 rfl) ?_
 refine JL.rd (Rd.eql (t0 rfl) Ev.c) ?_
 refine JL.as (t0 rfl) ?_
 refine JL.n2 ?_
 refine J.condF (EvB (t0 rfl) rfl) ?_
 refine J.sr ?_
 refine JL.mv (t6 rfl) ?_
 refine JL.rd (Rd.neq (t0 rfl) Ev.c) ?_
 refine JL.mv (t0 rfl) ?_
 refine JL.rdG rfl (EvB (t0 rfl) rfl) rfl (Rd.move (t14 rfl)) ?_
 refine JL.rdG rfl (EvB (t1 rfl) rfl) rfl (Rd.move (t16 rfl)) ?_
 refine JL.rdG rfl (EvB (t2 rfl) rfl) rfl (Rd.mul Ev.c (t0 rfl) (w64 (by omega) (by omega))) ?_
 refine JL.rdG rfl (EvB (t3 rfl) rfl) rfl (Rd.add (t0 rfl) Ev.c (w64 (by omega) (by omega))) ?_
 refine JL.rdG rfl (EvB (t4 rfl) rfl) rfl (Rd.geq (t3 rfl) (t0 rfl)) ?_
 refine JL.rd (Rd.pickF (EvB (t5 rfl) rfl) (t0 rfl)) ?_
 refine JL.mv (t0 rfl) ?_
 refine JL.rdG rfl (EvB (t0 rfl) (decide_eq_false (by omega))) rfl ((by first | exact Rd.fld0 fld_28_1 (t25 rfl) | exact Rd.fld fld_28_1 (t25 rfl))) ?_
 refine JL.rdG rfl (EvB (t1 rfl) (decide_eq_false (by omega))) rfl (Rd.ldN Try.isAgg25 (t0 rfl) (by repeat constructor) (by repeat constructor)) ?_
 refine JL.rdG rfl (EvB (t2 rfl) (decide_eq_false (by omega))) rfl (Rd.move (t22 rfl)) ?_
 refine JL.efG rfl (EvB (t3 rfl) (decide_eq_false (by omega))) rfl (Ef.call (.cons (t1 rfl) (.cons (t0 rfl) .nil)) (mequal_any m mc 3 3 W.2.1 W.2.1) (by repeat constructor) ?_)
 rintro - -
 rw [decide_eq_true ⟨rfl, rfl⟩]
 simp only [cA, nA]
 refine JL.rdG rfl (EvB (t4 rfl) (decide_eq_false (by omega))) rfl (Rd.not (EvB (t0 rfl) rfl)) ?_
 refine JL.rd (Rd.pickF (EvB (t5 rfl) (decide_eq_false (by omega))) (t0 rfl)) ?_
 refine JL.mv (t0 rfl) ?_
 refine JL.rdG rfl (EvB (t0 rfl) rfl) rfl ((by first | exact Rd.fld0 fld_28_2 (t32 rfl) | exact Rd.fld fld_28_2 (t32 rfl))) ?_
 refine JL.rdG rfl (EvB (t1 rfl) rfl) rfl (Rd.ldN Try.isAgg26 (t0 rfl) (by repeat constructor) (by repeat constructor)) ?_
 refine JL.efG rfl (EvB (t2 rfl) rfl) rfl (Ef.call (.cons (t0 rfl) .nil) (root_any t d m (rootI W.2.2.1)) (by repeat constructor) ?_)
 rintro - -
 simp only [cA, nA]
 refine JL.rdG rfl (EvB (t3 rfl) rfl) rfl (Rd.move (t29 rfl)) ?_
 refine JL.rdG rfl (EvB (t4 rfl) rfl) rfl (Rd.neq (t1 rfl) (t0 rfl)) ?_
 refine JL.rd (Rd.pickF (EvB (t5 rfl) rfl) (t0 rfl)) ?_
 refine JL.as (t0 rfl) ?_
 refine JL.n2 ?_
 refine J.condF (EvB (t0 rfl) (decide_eq_false (fun h => h rfl))) ?_
 refine J.skip ?_
 refine At.blkN ?_
 refine At.next ?_
 refine J.seq ?_
 refine J.live (K := [(8, _), (7, _), (5, _), (4, _), (1, _)]) ⟨(lk37 rfl), (lk38 rfl), (lk39 rfl), (lk40 rfl), (lk41 rfl), trivial⟩ ?_
 intro ρ9
 refine J.region ?_
 refine JL.rd ((by first | exact Rd.fld0 fld_28_2 (t2 rfl) | exact Rd.fld fld_28_2 (t2 rfl))) ?_
 refine JL.rd (Rd.ldN Try.isAgg26 (t0 rfl) (by repeat constructor) (by repeat constructor)) ?_
 refine JL.mv (t3 rfl) ?_
 refine JL.ef (Ef.call (.cons (t1 rfl) (.cons (t0 rfl) .nil)) (all_any t d m 3 V.1 W.2.1 W.2.2.1 hU.pi.ok hU.pi.hd (hU.pi.rhd (by have := hU.rows; omega)) hU.live.2.1 (by have := hU.rows; omega) ra rc (entR W.2.2.1) (by have := hU.rows; omega)) (by repeat constructor) ?_)
 rintro - -
 rw [decide_eq_true rfl]
 simp only [cA, nA]
 refine JL.rd (Rd.not (EvB (t0 rfl) rfl)) ?_
 refine JL.n2 ?_
 refine J.condF (EvB (t0 rfl) rfl) ?_
 refine J.skip ?_
 refine At.blkN ?_
 refine At.next ?_
 refine J.region ?_
 refine JL.mv (t5 rfl) ?_
 refine JL.rd (Rd.add (t0 rfl) Ev.c (w64 (by omega) (by omega))) ?_
 refine JL.as (t0 rfl) ?_
 refine JL.nil ?_
 refine At.again ((i + 1, (ra, rc), (V.1, W.2.1, W.2.2.1, V.2.2.2))) ?_ ?_ ⟨lk0.trans (by first | (rfl; done) | with_reducible rfl | (congr 1; omega) | (simp; done) | (simp [*]; done)), (lk9 rfl).trans (by first | (rfl; done) | with_reducible rfl | (congr 1; omega) | (simp; done) | (simp [*]; done)), trivial⟩ ⟨(lk10 rfl), (lk11 rfl), (lk12 rfl), trivial⟩ (fun _ => Stars.sel (by repeat constructor))
 exact ⟨by show i + 1 ≤ l.length; omega, by show i + 1 ≤ 40; omega, hU.mono (by omega) (Nat.le_refl _) (Nat.le_refl _), by first | assumption | exact hyc⟩
 show 40 - (i + 1) < 40 - i; omega
 intro hc3
 refine J.exit ?_
 refine At.nextX ?_
 refine At.loopX ?_
 refine At.blkX ?_
 refine At.next ?_
 refine J.sr ?_
 refine JL.as Ev.c ?_
 refine JL.nr ?_
 exact At.ret (()) (trivial) (ResV.one rfl (t0 rfl)) rfl (fun _ => Stars.sel (by repeat constructor))
 intro hb2p hb2
 refine JL.skG rfl (EvB (t0 rfl) hb2) rfl ?_
 refine JL.skG rfl (EvB (t1 rfl) hb2) rfl ?_
 refine JL.rd (Rd.pickF (EvB (t2 rfl) hb2) Ev.c) ?_
 refine JL.n2 ?_
 refine J.condF (t0 rfl) ?_
 refine J.exit ?_
 refine At.nextX ?_
 refine At.loopX ?_
 refine At.blkX ?_
 refine At.next ?_
 refine J.sr ?_
 refine JL.as Ev.c ?_
 refine JL.nr ?_
 exact At.ret (()) (trivial) (ResV.one rfl (t0 rfl)) rfl (fun _ => Stars.sel (by repeat constructor))
end Go.Proofs.Ytbhladkbnleeoaa

namespace Go.Proofs.Ytbhladkbnleeoaa
open Go.ChangeShapes Go.WideShapes Go.ChangeAt Go.RowKit

theorem own : ownKnob Try.prog.godebug = none := by kernel_rfl

theorem laid_ : laidOutB Try.prog = true := by kernel_rfl
theorem u8_wf {a : Int} (h : (Lit.int .u8 a).wf = true) : ∃ c : UInt8, a = (c.toNat : Int) := by
  have h2 : 0 ≤ a ∧ a ≤ 255 := by
    have := h
    have m0 : IntKind.u8.min = 0 := by decide
    have m1 : IntKind.u8.max = 255 := by decide
    simp [Lit.wf, m0, m1] at this
    omega
  refine ⟨UInt8.ofNat a.toNat, ?_⟩
  rw [UInt8.toNat_ofNat']
  omega

end Go.Proofs.Ytbhladkbnleeoaa

namespace Go.Proofs.Ytbhladkbnleeoaa
open Go.ChangeShapes Go.WideShapes Go.ChangeAt Go.RowKit

/-- All that was there, to be read only. -/
def roOld (W : World) : Frag := fun b => (W.heap[b]?).map fun o => (false, o)
theorem roOld_sub (W : World) : Sub (roOld W) W := by
  intro b f o h
  unfold roOld at h
  cases e : W.heap[b]? with
  | none => rw [e] at h; cases h
  | some o' => rw [e] at h; cases h; rfl
theorem roOld_own {W : World} {b : Nat} : ¬ Own (roOld W) b := by
  rintro ⟨o, h⟩
  unfold roOld at h
  cases e : W.heap[b]? with
  | none => rw [e] at h; cases h
  | some o' => rw [e] at h; cases h
theorem roOld_cmp (W : World) : Cmp (roOld W) (roOld W) := by
  intro b
  unfold roOld
  cases e : W.heap[b]? with
  | none => exact .inl rfl
  | some o => exact .inr (.inr ⟨rfl, o, rfl⟩)
theorem roOld_jn (W : World) : jn (roOld W) (roOld W) = roOld W := by
  funext b
  unfold jn roOld
  cases W.heap[b]? <;> rfl
/-- What is only read may be had side by side. -/
theorem Stars.old {W : World} {A : Assn} {l : List Assn} (a : A (roOld W)) (s : Stars l (roOld W)) : Stars (A :: l) (roOld W) := ⟨roOld W, roOld W, a, s, roOld_cmp W, (roOld_jn W).symm⟩
theorem Fr.old {W W' : World} {h' : Frag} (f : Fr (roOld W) W h' W') : W.keptBut W' (fun _ => False) := by
  have r := World.keptBut_refl W (fun _ => False)
  exact ⟨f.os.trans r.1, f.output.trans r.2.1, fun i hi => by
    have e := f.keep i hi roOld_own
    rw [e]
    exact r.2.2 i hi⟩
theorem Fr.below {W W' : World} {h' : Frag} (f : Fr (roOld W) W h' W') : Below W.heap.size W W' := ⟨f.os, f.tape, f.output, f.size, fun k hk => f.keep k hk roOld_own⟩

section
variable {H : Type} {enc : TypeId × Value → H} {P : Program} {W : World}

/-- A slice's elements. -/
theorem open_rows {t e : TypeId} {s fuel : Nat} {cs : List Value} {x : DataW H × List MemPlace} (ht : P.underlying t = some (.slice e)) (hs : P.cellsOf e = s) (hs0 : 0 < s) (h : DataW.trod enc P W 0 (fun _ => true) true fuel t cs = some x) :
    ∃ (a : Option Addr) (n cap : Nat) (xs : List (List Value)), cs = [.slice a n cap] ∧ xs.length = n ∧ n ≤ cap ∧ cap ≤ maxLen ∧ rowR a s xs (roOld W) ∧ ∃ m, ∀ u ∈ xs, ∃ y, DataW.trod enc P W 0 (fun _ => true) true m e u = some y := by
  subst hs
  rcases Deep.open_slice ht h with ⟨rfl, _⟩ | ⟨a, len, cap, m, n, D, Pl, rfl, _, hl, hm, hmm, _, hel⟩
  · exact ⟨none, 0, 0, [], rfl, rfl, Nat.le_refl _, Nat.zero_le _, by unfold rowR; exact ⟨(by intro x hx; cases hx), .inl rfl⟩, 0, fun u hu => by cases hu⟩
  · have hmc : m = cap := by rw [hmm]; rfl
    obtain ⟨f, hf⟩ := Deep.choose_lt (n := len) (p := fun i (cs' : List Value) => W.cells? 0 (a.add (i * P.cellsOf e)) (P.cellsOf e) = some cs' ∧ DataW.trod enc P W 0 (fun _ => true) true n e cs' = some (D i, Pl i)) fun i hi => hel i (by omega)
    have hcell : ∀ i, i < len → ∀ j, j < P.cellsOf e → W.cell? (a.add (i * P.cellsOf e + j)) = (f i)[j]? := by
      intro i hi j hj
      have := (World.cells?_some (hf i hi).1).2.2 j hj
      rw [← this, Deep.add_add]
    have hlen : ∀ i, i < len → (f i).length = P.cellsOf e := fun i hi => (World.cells?_some (hf i hi).1).2.1
    have hflat : Flat (P.cellsOf e) ((List.range len).map f) := by
      intro x hx
      obtain ⟨i, hi, rfl⟩ := List.mem_map.1 hx
      exact hlen i (List.mem_range.1 hi)
    refine ⟨some a, len, cap, (List.range len).map f, rfl, by simp, hl, hm, ?_, n, ?_⟩
    · unfold rowR
      refine ⟨hflat, ?_⟩
      rcases Nat.eq_zero_or_pos len with h0 | h0
      · subst h0; exact .inl rfl
      · right
        have h00 := hcell 0 h0 0 hs0
        have hsome : ∃ v, W.cell? a = some v := by
          have : (f 0)[0]? = some ((f 0)[0]'(by rw [hlen 0 h0]; exact hs0)) := List.getElem?_eq_getElem _
          rw [this] at h00
          simp only [Nat.zero_mul, Nat.add_zero] at h00
          exact ⟨_, by simpa [Addr.add] using h00⟩
        obtain ⟨v, hv⟩ := hsome
        obtain ⟨C, te, fr, hb, hsp⟩ : ∃ C te fr, W.heap[a.block]? = some (.cells C te fr) ∧ a.spot = none := by
          unfold World.cell? at hv
          split at hv
          · rename_i c te fr hh
            refine ⟨c, te, fr, hh, ?_⟩
            split at hv
            · cases hv
            · rename_i hns
              cases hsp : a.spot with
              | none => rfl
              | some z => rw [hsp] at hns; exact absurd rfl hns
          · cases hv
        obtain ⟨b, off, sp⟩ := a
        dsimp only at hsp hb
        subst hsp
        refine ⟨b, off, C.toList, te, fr, rfl, by unfold roOld; rw [hb]; simp, ?_⟩
        apply List.ext_getElem?
        intro k
        by_cases hk : k < ((List.range len).map f).length * P.cellsOf e
        · rw [List.getElem?_take_of_lt hk, List.getElem?_drop]
          have hk' : k < len * P.cellsOf e := by simpa using hk
          have hq : k / P.cellsOf e < len := Nat.div_lt_of_lt_mul (by rw [Nat.mul_comm]; exact hk')
          have hr : k % P.cellsOf e < P.cellsOf e := Nat.mod_lt _ hs0
          have hkd : k = k / P.cellsOf e * P.cellsOf e + k % P.cellsOf e := by rw [Nat.mul_comm]; exact (Nat.div_add_mod k _).symm
          have hg : ((List.range len).map f)[k / P.cellsOf e]? = some (f (k / P.cellsOf e)) := by simp [hq]
          have h1 := hflat.get hg
          have h2 := hcell _ hq _ hr
          rw [← hkd, add_off, World.cell?, hb] at h2
          simp only [Option.isSome_none, Bool.false_eq_true, if_false] at h2
          rw [Array.getElem?_toList, h2, ← h1, List.getElem?_take_of_lt hr, List.getElem?_drop, ← hkd]
        · rw [List.getElem?_eq_none (by simp at hk ⊢; omega), List.getElem?_eq_none (by rw [hflat.length]; omega)]
    · intro u hu
      obtain ⟨i, hi, rfl⟩ := List.mem_map.1 hu
      exact ⟨_, (hf i (List.mem_range.1 hi)).2⟩
end

end Go.Proofs.Ytbhladkbnleeoaa

namespace Go.Proofs.Ytbhladkbnleeoaa
open Go.ChangeShapes Go.WideShapes Go.ChangeAt Go.RowKit

theorem i64_wf {a : Int} (h : (Lit.int .i64 a).wf = true) : -9223372036854775808 ≤ a ∧ a ≤ 9223372036854775807 := by
  have m0 : IntKind.i64.min = -9223372036854775808 := by decide
  have m1 : IntKind.i64.max = 9223372036854775807 := by decide
  simp [Lit.wf, m0, m1] at h
  omega
theorem u16_wf {a : Int} (h : (Lit.int .u16 a).wf = true) : ∃ n : Nat, a = (n : Int) ∧ n < 65536 := by
  have m0 : IntKind.u16.min = 0 := by decide
  have m1 : IntKind.u16.max = 65535 := by decide
  simp [Lit.wf, m0, m1] at h
  exact ⟨a.toNat, by omega, by omega⟩
theorem str_bytes (s : ByteArray) : Value.string s = str s.data.toList := by unfold str; simp
section
variable {H : Type} {enc : TypeId × Value → H} {W : World}
set_option maxRecDepth 100000 in
theorem open_op {fuel : Nat} {u : List Value} {x : DataW H × List MemPlace} (h : DataW.trod enc Try.prog W 0 (fun _ => true) true fuel 47 u = some x) : ∃ o : OpR, u = opR o ∧ o.ok := by
  obtain ⟨ys, n, _, _, hl, hlen, hf⟩ := DataW.trod_struct Try.underlying47 h
  have hl5 : u.length = 7 := hl.trans (by kernel_rfl)
  have c1 : Try.prog.cellsOf 5 = 1 := by kernel_rfl
  have c2 : Try.prog.cellsOf 3 = 1 := by kernel_rfl
  have c3 : Try.prog.cellsOf 9 = 1 := by kernel_rfl
  have c4 : Try.prog.cellsOf 45 = 1 := by kernel_rfl
  match u, hl5 with
  | [u0, u1, u2, u3, u4, u5, u6], _ =>
    match ys, hlen with
    | [y0, y1, y2, y3, y4, y5, y6], _ =>
      have f0 : DataW.trod enc Try.prog W 0 (fun _ => true) true n 5 (([u0, u1, u2, u3, u4, u5, u6].drop 0).take (Try.prog.cellsOf 5)) = some y0 := hf 0 _ rfl
      rw [c1] at f0
      have f1 : DataW.trod enc Try.prog W 0 (fun _ => true) true n 9 (([u0, u1, u2, u3, u4, u5, u6].drop 1).take (Try.prog.cellsOf 9)) = some y1 := hf 1 _ rfl
      rw [c3] at f1
      have f2 : DataW.trod enc Try.prog W 0 (fun _ => true) true n 9 (([u0, u1, u2, u3, u4, u5, u6].drop 2).take (Try.prog.cellsOf 9)) = some y2 := hf 2 _ rfl
      rw [c3] at f2
      have f3 : DataW.trod enc Try.prog W 0 (fun _ => true) true n 45 (([u0, u1, u2, u3, u4, u5, u6].drop 3).take (Try.prog.cellsOf 45)) = some y3 := hf 3 _ rfl
      rw [c4] at f3
      have f4 : DataW.trod enc Try.prog W 0 (fun _ => true) true n 45 (([u0, u1, u2, u3, u4, u5, u6].drop 4).take (Try.prog.cellsOf 45)) = some y4 := hf 4 _ rfl
      rw [c4] at f4
      have f5 : DataW.trod enc Try.prog W 0 (fun _ => true) true n 9 (([u0, u1, u2, u3, u4, u5, u6].drop 5).take (Try.prog.cellsOf 9)) = some y5 := hf 5 _ rfl
      rw [c3] at f5
      have f6 : DataW.trod enc Try.prog W 0 (fun _ => true) true n 3 (([u0, u1, u2, u3, u4, u5, u6].drop 6).take (Try.prog.cellsOf 3)) = some y6 := hf 6 _ rfl
      rw [c2] at f6
      obtain ⟨z0, e0, _, w0⟩ := DataW.trod_int Try.underlying5 f0
      replace e0 : [u0] = _ := e0
      obtain ⟨z1, e1, _, w1⟩ := DataW.trod_string Try.underlying9 f1
      replace e1 : [u1] = _ := e1
      obtain ⟨z2, e2, _, w2⟩ := DataW.trod_string Try.underlying9 f2
      replace e2 : [u2] = _ := e2
      obtain ⟨z3, e3, _, w3⟩ := DataW.trod_int Try.underlying45 f3
      replace e3 : [u3] = _ := e3
      obtain ⟨z4, e4, _, w4⟩ := DataW.trod_int Try.underlying45 f4
      replace e4 : [u4] = _ := e4
      obtain ⟨z5, e5, _, w5⟩ := DataW.trod_string Try.underlying9 f5
      replace e5 : [u5] = _ := e5
      obtain ⟨z6, e6, _, w6⟩ := DataW.trod_int Try.underlying3 f6
      replace e6 : [u6] = _ := e6
      obtain ⟨k, rfl⟩ := u8_wf w0
      obtain ⟨n3, rfl, b3⟩ := u16_wf w3
      obtain ⟨n4, rfl, b4⟩ := u16_wf w4
      simp only [List.cons.injEq, and_true] at e0 e1 e2 e3 e4 e5 e6
      subst e0 e1 e2 e3 e4 e5 e6
      have hb := i64_wf w6
      refine ⟨⟨k, z1.data.toList, z2.data.toList, n3, n4, z5.data.toList, z6⟩, ?_, b3, b4, hb.1, hb.2⟩
      unfold opR
      rw [str_bytes, str_bytes, str_bytes]
theorem ops_of : ∀ (xs : List (List Value)), (∀ u ∈ xs, ∃ o : OpR, u = opR o ∧ o.ok) → ∃ l : List OpR, xs = l.map opR ∧ ∀ o ∈ l, o.ok := by
  intro xs
  induction xs with
  | nil => intro _; exact ⟨[], rfl, fun o h => by cases h⟩
  | cons u xs ih =>
    intro h
    obtain ⟨o, rfl, hok⟩ := h u (List.mem_cons_self ..)
    obtain ⟨l, rfl, hl⟩ := ih fun v hv => h v (List.mem_cons_of_mem _ hv)
    refine ⟨o :: l, rfl, fun p hp => ?_⟩
    rcases List.mem_cons.1 hp with rfl | hp
    · exact hok
    · exact hl p hp
theorem open_ops {fuel : Nat} {cs : List Value} {x : DataW H × List MemPlace} (h : DataW.trod enc Try.prog W 0 (fun _ => true) true fuel 22 cs = some x) :
    ∃ (a : Option Addr) (cap : Nat) (l : List OpR), cs = [.slice a l.length cap] ∧ l.length ≤ cap ∧ cap ≤ maxLen ∧ rowR a 7 (l.map opR) (roOld W) ∧ ∀ o ∈ l, o.ok := by
  obtain ⟨a, n, cap, xs, rfl, hn, h1, h2, hr, m, hx⟩ := open_rows (s := 7) Try.underlying22 (by kernel_rfl) (by decide) h
  obtain ⟨l, rfl, hl⟩ := ops_of xs fun u hu => by
    obtain ⟨y, hy⟩ := hx u hu
    exact open_op hy
  rw [List.length_map] at hn
  subst hn
  exact ⟨a, cap, l, rfl, h1, h2, hr, hl⟩
end

/-- What an argument's value is whose cells are one slice. -/
theorem slice_value {P : Program} {w : World} {r : Reach} {base : Nat} {t e : TypeId} {v : Value} {a : Option Addr} {n cap : Nat} (ht : P.underlying t = some (.slice e)) (h : Value.okWide P w r base t v) (hc : v.cells.toList = [.slice a n cap]) : v = .slice a n cap := by
  obtain ⟨a', n', c', rfl⟩ := okWide_slice ht h
  simpa [Value.cells] using hc
end Go.Proofs.Ytbhladkbnleeoaa

