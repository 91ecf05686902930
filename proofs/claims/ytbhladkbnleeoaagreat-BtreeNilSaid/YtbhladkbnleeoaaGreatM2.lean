/-
  Parts of the proof: G7, G8, G9, C1, G10, G11, C2, G12, G13, G14, G15, G16, K4, G17, E0, G18, G19, K5, G20, G21.
-/
import Derived.Test.YtbhladkbnleeoaaGreatM1
namespace Go.Proofs.YtbhladkbnleeoaaGreat
set_option maxRecDepth 100000
attribute [local irreducible] J JL At Rd Ef DNew DCar DRun Then RetQ LoopQ

/-- A number of several bytes. -/
def beV (l : Bs) : Nat := l.foldl (fun r c => r * 256 + c.toNat) 0
theorem beV_snoc (l : Bs) (c : UInt8) : beV (l ++ [c]) = beV l * 256 + c.toNat := by simp [beV]
theorem beV_lt (l : Bs) : beV l < 256 ^ l.length := by
  have hgo : ∀ (l : Bs) (r : Nat), l.foldl (fun r c => r * 256 + c.toNat) r < (r + 1) * 256 ^ l.length := by
    intro l
    induction l with
    | nil => intro r; simp
    | cons c l ih =>
      intro r
      have h1 := ih (r * 256 + c.toNat)
      have h2 := c.toNat_lt
      rw [List.foldl_cons, List.length_cons, Nat.pow_succ]
      refine Nat.lt_of_lt_of_le h1 ?_
      rw [Nat.mul_comm (256 ^ l.length) 256, ← Nat.mul_assoc]
      exact Nat.mul_le_mul_right _ (by omega)
  simpa [beV] using hgo l 0
theorem beV_1 {n : Nat} (h : n < 256) : beV [UInt8.ofNat n] = n := by simp [beV]; omega
theorem beV_2 {n : Nat} (h : n < 65536) : beV (be2 n) = n := by simp [beV, be2]; omega
theorem beV_4 {n : Nat} (h : n < 4294967296) : beV (be4 n) = n := by simp [beV, be4]; omega
theorem beV_take {l : Bs} {x : Nat} {c : UInt8} (h : l[x]? = some c) : beV (l.take (x + 1)) = beV (l.take x) * 256 + c.toNat := by rw [take_step h, beV_snoc]

set_option maxHeartbeats 400000 in
theorem take_any (p : Nat) (a : Option Addr) (n c k : Nat) (u s : Bs) (hu : u.length = k) (hn : n = k + s.length) (hc : n ≤ c) (_ : n ≤ 1048576) :
    Fn Tryz.prog 101 [.pointer (some ⟨p, 0, none⟩), .int .i64 (k : Int)] [pts p (.cells [.slice a n c, .bool true].toArray 152), rowR a 1 (b1s (u ++ s))] (X := Unit) (fun _ => True) (fun _ => .slice a k c) (fun _ => [pts p (.cells [.slice (subA a 1 k c) (n - k) (c - k), .bool true].toArray 152), rowR a 1 (b1s u), rowR (subA a 1 k c) 1 (b1s s)]) := by
 refine Fn.mk' (n := 41) (l := [(0, .pointer (some ⟨p, 0, none⟩)), (1, .int .i64 (k : Int))]) (fn := Tryz.f101) Tryz.func101 (by kernel_rfl) rfl rfl (by simp) rfl ?_
 intro h0 w0
 refine J.sr <| JL.as Ev.c <| JL.n5 <| JL.mv (t1 rfl) <| JL.rd (Rd.nil (t0 rfl)) <| JL.rd ((by first | exact Rd.fld0 fld_152_1 (t0 rfl) | exact Rd.fld fld_152_1 (t0 rfl))) ?_
 refine JL.rd (Rd.ldN Tryz.isAgg4 (t0 rfl) (by repeat constructor) (by repeat constructor)) ?_
 refine JL.rd (Rd.not (EvB (t0 rfl) rfl)) <| JL.mv (t0 rfl) <| JL.rdG rfl (EvB (t0 rfl) rfl) rfl (Rd.move (t8 rfl)) <| JL.rdG rfl (EvB (t1 rfl) rfl) rfl (Rd.move (t8 rfl)) <| JL.rdG rfl (EvB (t2 rfl) rfl) rfl (Rd.nil (t0 rfl)) <| JL.rdG rfl (EvB (t3 rfl) rfl) rfl ((by first | exact Rd.fld0 fld_152_0 (t0 rfl) | exact Rd.fldz fld_152_0 (t0 rfl))) ?_
 refine JL.rdG rfl (EvB (t4 rfl) rfl) rfl (Rd.ldN Tryz.isAgg122 (t0 rfl) (by repeat constructor) (by repeat constructor)) ?_
 refine JL.rdG rfl (EvB (t5 rfl) rfl) rfl (Rd.len Tryz.runUnderlying122 (t0 rfl)) <| JL.rdG rfl (EvB (t6 rfl) rfl) rfl (Rd.gtr (t5 rfl) (t0 rfl)) <| JL.rd (Rd.pickF (EvB (t7 rfl) rfl) (t0 rfl)) <| JL.n2 <| J.condF (EvB (t0 rfl) (decide_eq_false (by omega))) ?_
 refine J.k4 <| JL.mv (t15 rfl) <| JL.rd (Rd.nil (t0 rfl)) <| JL.rd ((by first | exact Rd.fld0 fld_152_0 (t0 rfl) | exact Rd.fldz fld_152_0 (t0 rfl))) ?_
 refine JL.rd (Rd.ldN Tryz.isAgg122 (t0 rfl) (by repeat constructor) (by repeat constructor)) ?_
 refine JL.mv (t20 rfl) <| JL.rd (Rd.slToN Tryz.runUnderlying122 Tryz.sizeOf5 (t1 rfl) (t0 rfl) (by omega)) ?_
 refine JL.as (t0 rfl) <| JL.n4 <| JL.mv (t22 rfl) <| JL.mv (t23 rfl) <| JL.rd (Rd.nil (t0 rfl)) <| JL.rd ((by first | exact Rd.fld0 fld_152_0 (t0 rfl) | exact Rd.fldz fld_152_0 (t0 rfl))) ?_
 refine JL.rd (Rd.ldN Tryz.isAgg122 (t0 rfl) (by repeat constructor) (by repeat constructor)) ?_
 refine JL.mv (t28 rfl) <| JL.rd (Rd.slFrom Tryz.runUnderlying122 Tryz.sizeOf5 (t1 rfl) (t0 rfl) (by omega)) ?_
 refine JL.rd (Rd.nil (t6 rfl)) <| JL.rd ((by first | exact Rd.fld0 fld_152_0 (t0 rfl) | exact Rd.fldz fld_152_0 (t0 rfl))) ?_
 refine JL.ef0 (Ef.st Tryz.sizeOf122 (t0 rfl) (t2 rfl) rfl (by repeat constructor) (by repeat constructor) (by repeat constructor) (by first | rfl | simp) ?_)
 refine JL.ns <| J.live (K := [(5, _), (4, _)]) ⟨(lk9 rfl), (lk30 rfl), trivial⟩ ?_
 intro ρ1
 refine J.region <| JL.mv (t0 rfl) <| JL.as (t0 rfl) <| JL.nr <| At.cut 0 k c (show (b1s (u ++ s)).length ≤ c by simp; omega) (by repeat constructor) ?_
 refine At.cut k n c (show (b1s (u ++ s)).length ≤ c by simp; omega) (.there .here) ?_
 rw [subA_zero, show ((b1s (u ++ s)).drop 0).take k = b1s u by rw [List.drop_zero, ← b1s_append, List.take_left' (by rw [b1s_length, hu])], show ((b1s (u ++ s)).drop k).take n = b1s s by rw [← b1s_append, List.drop_left' (by rw [b1s_length, hu]), List.take_of_length_le (by rw [b1s_length]; omega)]]
 exact At.r (()) (trivial) (ResV.one rfl (t0 rfl)) rfl

set_option maxHeartbeats 400000 in
theorem number_any (p : Nat) (a : Option Addr) (n c k : Nat) (u s : Bs) (hu : u.length = k) (hn : n = k + s.length) (hc : n ≤ c) (hl : n ≤ 1048576) (hk : k ≤ 4) :
    Fn Tryz.prog 100 [.pointer (some ⟨p, 0, none⟩), .int .i64 (k : Int)] [pts p (.cells [.slice a n c, .bool true].toArray 152), rowR a 1 (b1s (u ++ s))] (X := Unit) (fun _ => True) (fun _ => .int .i64 (beV u : Int)) (fun _ => [pts p (.cells [.slice (subA a 1 k c) (n - k) (c - k), .bool true].toArray 152), rowR (subA a 1 k c) 1 (b1s s)]) := by
 refine Fn.mk' (n := 23) (l := [(0, .pointer (some ⟨p, 0, none⟩)), (1, .int .i64 (k : Int))]) (fn := Tryz.f100) Tryz.func100 (by kernel_rfl) rfl rfl (by simp) rfl ?_
 intro h0 w0
 refine J.sr <| JL.as Ev.c <| JL.n4 <| JL.as Ev.c <| JL.n5 <| JL.mv (t2 rfl) <| JL.mv (t4 rfl) <| JL.ef (Ef.call (.cons (t1 rfl) (.cons (t0 rfl) .nil)) (take_any p a n c k u s hu hn hc hl) (by repeat constructor) ?_)
 rintro - -
 simp only [cA, nA]
 refine JL.rd (Rd.len Tryz.runUnderlying122 (t0 rfl)) <| JL.mv Ev.c <| JL.nb <| J.loop (X := Nat) (fun (x : Nat) => [(12, .int .i64 (x : Int)), (5, .int .i64 (beV (u.take x) : Int))]) (K := [(11, _), (10, _), (4, _)]) (fun x => [pts p (.cells [.slice (subA a 1 k c) (n - k) (c - k), .bool true].toArray 152), rowR a 1 (b1s u), rowR (subA a 1 k c) 1 (b1s s)]) (fun x => x ≤ k) (fun x => k - x) (0) ?_ ⟨lk0.trans (by first | (first | (rw [hbs]; done) | rfl; done) | with_reducible rfl | (congr 1; omega) | (simp; done) | (simp [*]; done)), (lk5 rfl).trans (by first | (first | (rw [hbs]; done) | rfl; done) | with_reducible rfl | (congr 1; omega) | (simp; done) | (simp [*]; done)), trivial⟩ ⟨(lk1 rfl), (lk2 rfl), (lk6 rfl), trivial⟩ (fun _ => Stars.sel (by repeat constructor)) ?_
 exact Nat.zero_le _
 intro x ρ hp
 simp only [cA, nA]
 refine J.sr <| JL.rd (Rd.lss (t0 rfl) (t2 rfl)) <| JL.ns <| J.condD (t0 rfl) ?_ ?_
 intro hc1
 have hbs := beV_take (b1s_at (l := u) (x := x) (by omega))
 have hbl := beV_lt (u.take x)
 have hcl := (u.getD x 0).toNat_lt
 have hbb : beV (u.take x) < 16777216 := Nat.lt_of_lt_of_le hbl (by
   have h3 : (u.take x).length ≤ 3 := by rw [List.length_take]; omega
   exact Nat.le_trans (Nat.pow_le_pow_right (by decide) h3) (by decide))
 refine J.skip <| At.next <| J.seq <| J.block <| J.sr <| JL.rd (Rd.byIdx Tryz.runUnderlying122 Tryz.sizeOf5 (t4 rfl) (t1 rfl) (Src.i (by repeat constructor)) (by first | (simp; done) | (simp; omega) | omega | (simp [*]; done) | (simp [*]; omega)) (by omega) (by omega)) ?_
 refine JL.rd (Rd.byLd Tryz.isAgg5 (t0 rfl) (Src.i (by repeat constructor)) (by first | (simp; done) | (simp; omega) | omega | (simp [*]; done) | (simp [*]; omega))) ?_
 simp only [Int.toNat_natCast]
 refine JL.as (t0 rfl) <| JL.n2 <| J.region <| JL.mv (t5 rfl) <| JL.rd (Rd.shl64 (n := 8) (t0 rfl) Ev.c (by decide) (by omega)) ?_
 refine JL.mv (t2 rfl) <| JL.rd (Rd.conv (t0 rfl) (fun w => ⟨_, Tryz.runUnderlying5 w⟩) Tryz.runUnderlying3 (w64 (by omega) (by omega))) ?_
 refine JL.rd (Rd.orB (t2 rfl) (t0 rfl) (by omega) (by omega)) ?_
 refine JL.as (t0 rfl) <| JL.nil <| At.blkN <| At.next <| J.region <| JL.rd (Rd.add (t10 rfl) Ev.c (w64 (by omega) (by omega))) ?_
 refine JL.mv (t0 rfl) <| JL.nil <| At.again (x + 1) ?_ ?_ ⟨lk0.trans (by first | (first | (rw [hbs]; done) | rfl; done) | with_reducible rfl | (congr 1; omega) | (simp; done) | (simp [*]; done)), (lk2 rfl).trans (by first | (first | (rw [hbs]; done) | rfl; done) | with_reducible rfl | (congr 1; omega) | (simp; done) | (simp [*]; done)), trivial⟩ ⟨(lk14 rfl), (lk15 rfl), (lk16 rfl), trivial⟩ (fun _ => Stars.sel (by repeat constructor))
 omega
 omega
 intro hc1
 obtain rfl : x = k := by omega
 rw [List.take_of_length_le (by omega)]
 exact J.exit <| At.nextX <| At.loopX <| At.blkX <| At.next <| J.sr <| JL.mv (t2 rfl) <| JL.as (t0 rfl) <| JL.nr <| At.r (()) (trivial) (ResV.one rfl (t0 rfl)) rfl

theorem row_cap {a : Option Addr} {cap e s : Nat} {xs : List (List Value)} {l : List Assn} {h : Frag} (st : Stars (row a cap e s xs :: l) h) : xs.length ≤ cap := by
  obtain ⟨h1, h2, p, _⟩ := st
  unfold row at p
  obtain ⟨_, ⟨rfl, rfl, rfl⟩ | ⟨b, cs, lo, hi, rfl, _, _, _, h3, _⟩⟩ := p
  · exact Nat.le_refl _
  · exact h3
theorem b1s_at2 {α : Type} {l : List α} {x : Nat} {z : α} (h : x < l.length) : l[x]? = some (l.getD x z) := by
  rw [List.getD_eq_getElem?_getD, List.getElem?_eq_getElem h]; rfl
theorem leafB_drop {l : List It} {x : Nat} {p : It} (h : l[x]? = some p) (z : Bs) : leafB (l.drop x) ++ z = [UInt8.ofNat p.1.length] ++ (be2 p.2.length ++ (p.1 ++ (p.2 ++ (leafB (l.drop (x + 1)) ++ z)))) := by
  have h1 := List.getElem?_eq_some_iff.1 h
  rw [List.drop_eq_getElem_cons h1.1, h1.2]
  simp [leafB, itB]

set_option maxHeartbeats 400000 in
theorem leaves_any (p : Nat) (a : Option Addr) (n c : Nat) (l : List It) (z : Bs) (hn : n = (leafB l ++ z).length) (hc : n ≤ c) (hl : n ≤ 1048576) (hl0 : l ≠ []) (hok : ∀ q ∈ l, itOk q) (hs : sorted l) (hll : l.length ≤ 1048576) :
    Fn Tryz.prog 77 [.pointer (some ⟨p, 0, none⟩), .int .i64 (l.length : Int)] [pts p (.cells [.slice a n c, .bool true].toArray 152), rowR a 1 (b1s (leafB l ++ z))] (X := Option Addr × Nat) (fun x => l.length ≤ x.2) (fun x => .tuple #[.iface 85 (.slice x.1 l.length x.2), .int .i64 0]) (fun x => [rowR x.1 2 (l.map itc)]) := by
 refine Fn.mk' (n := 70) (l := [(0, .pointer (some ⟨p, 0, none⟩)), (1, .int .i64 (l.length : Int))]) (fn := Tryz.f77) Tryz.func77 (by kernel_rfl) rfl rfl (by simp) rfl ?_
 intro h0 w0
 have hlp := List.length_pos_iff.2 hl0
 refine J.sr <| JL.as Ev.c <| JL.as Ev.c <| JL.n4 <| JL.as Ev.c <| JL.n5 <| JL.mv (t4 rfl) <| JL.mv Ev.c <| JL.nb <| J.loop (X := Nat × (Option Addr × Nat × Nat) × (Option Addr × Nat)) (fun (x : Nat × (Option Addr × Nat × Nat) × (Option Addr × Nat)) => [(12, .int .i64 (x.1 : Int)), (6, .slice x.2.2.1 x.1 x.2.2.2)]) (K := [(11, _), (5, _), (4, _), (0, _)]) (fun x => [pts p (.cells [.slice x.2.1.1 x.2.1.2.1 x.2.1.2.2, .bool true].toArray 152), rowR x.2.1.1 1 (b1s (leafB (l.drop x.1) ++ z)), row x.2.2.1 x.2.2.2 64 2 ((l.take x.1).map itc)]) (fun x => x.1 ≤ l.length ∧ x.2.1.2.1 = (leafB (l.drop x.1) ++ z).length ∧ x.2.1.2.1 ≤ x.2.1.2.2 ∧ x.2.1.2.1 ≤ 1048576) (fun x => l.length - x.1) ((0, (a, n, c), (none, 0))) ?_ ⟨lk0.trans (by first | with_reducible rfl | (congr 1; omega) | (simp; done) | (simp [*]; done)), (lk2 rfl).trans (by first | with_reducible rfl | (congr 1; omega) | (simp; done) | (simp [*]; done)), trivial⟩ ⟨(lk1 rfl), (lk3 rfl), (lk4 rfl), (lk5 rfl), trivial⟩ (fun _ s => Stars.sel (by repeat constructor) (row_nil 64 2 s)) ?_
 exact ⟨Nat.zero_le _, hn, hc, hl⟩
 rintro ⟨x, ⟨b, k, m⟩, ⟨ra, rc⟩⟩ ρ ⟨h1, h2, h3, h4⟩
 simp only [cA, nA]
 dsimp only at h1 h2 h3 h4 ⊢
 refine J.sr <| JL.rd (Rd.lss (t0 rfl) (t2 rfl)) <| JL.ns <| J.condD (t0 rfl) ?_ ?_
 intro hc1
 obtain ⟨q, hq⟩ : ∃ q, l[x]? = some q := ⟨_, List.getElem?_eq_getElem (by omega)⟩
 have hqo := hok q (List.mem_of_getElem? hq)
 unfold itOk at hqo
 have hdr := leafB_drop hq z
 have hdl := congrArg List.length hdr
 simp only [List.length_append, List.length_singleton] at h2 hdl
 have hb2 : (be2 q.2.length).length = 2 := rfl
 rw [hdr]
 have hpv : ∀ h : 0 < x, ((l.take x).map itc)[((x : Int) - 1).toNat]? = some [str (l.getD (x - 1) ([], [])).1, str (l.getD (x - 1) ([], [])).2] := fun h => by
   rw [show ((x : Int) - 1).toNat = x - 1 by omega, List.getElem?_map, List.getElem?_take_of_lt (by omega), b1s_at2 (by omega)]; rfl
 have hlt : ∀ h : 0 < x, slt (l.getD (x - 1) ([], [])).1 q.1 = true := fun h => pair_get hs (by omega : x - 1 < x) (b1s_at2 (by omega)) hq
 have e4 : (leafB (l.drop (x + 1)) ++ (z)).length = (leafB (l.drop (x + 1))).length + (z).length := List.length_append
 have e3 : (q.2 ++ (leafB (l.drop (x + 1)) ++ z)).length = (q.2).length + (leafB (l.drop (x + 1)) ++ z).length := List.length_append
 have e2 : (q.1 ++ (q.2 ++ (leafB (l.drop (x + 1)) ++ z))).length = (q.1).length + (q.2 ++ (leafB (l.drop (x + 1)) ++ z)).length := List.length_append
 have e1 : (be2 q.2.length ++ (q.1 ++ (q.2 ++ (leafB (l.drop (x + 1)) ++ z)))).length = (be2 q.2.length).length + (q.1 ++ (q.2 ++ (leafB (l.drop (x + 1)) ++ z))).length := List.length_append
 refine J.skip <| At.next <| J.seq <| J.block <| J.sr <| JL.mv (t1 rfl) <| JL.as (t0 rfl) <| JL.n4 <| JL.mv (t8 rfl) <| JL.ef (Ef.call (.cons (t0 rfl) (.cons Ev.c .nil)) (number_any p b k m 1 [UInt8.ofNat q.1.length] (be2 q.2.length ++ (q.1 ++ (q.2 ++ (leafB (l.drop (x + 1)) ++ z)))) rfl (by omega) (by omega) (by omega) (by omega)) (by repeat constructor) ?_)
 rintro - -
 rw [beV_1 (by omega)]
 simp only [cA, nA]
 refine JL.mv (t10 rfl) <| JL.ef (Ef.call (.cons (t0 rfl) (.cons Ev.c .nil)) (number_any p (subA b 1 1 m) (k - 1) (m - 1) 2 (be2 q.2.length) (q.1 ++ (q.2 ++ (leafB (l.drop (x + 1)) ++ z))) rfl (by omega) (by omega) (by omega) (by omega)) (by repeat constructor) ?_)
 rintro - -
 rw [beV_2 (by omega)]
 simp only [cA, nA]
 refine JL.as (t2 rfl) <| JL.as (t1 rfl) <| JL.ns <| J.drawF 9 [⟨false, 0, 0⟩, ⟨false, 0, 0⟩, ⟨true, 0, 0⟩, ⟨false, 1, 2⟩, ⟨false, 0, 1⟩, ⟨false, 0, 1⟩, ⟨true, 1, 1⟩, ⟨false, 2, 2⟩, ⟨false, 2, 2⟩, ⟨false, 0, 2⟩, ⟨true, 2, 2⟩] [2, 6, 10] mixed rfl rfl rfl rfl <| FRun.at [] [0, 1, 4, 5] rfl rfl ?_ ?_
 exact .nil
 refine DNew.rd rfl (Rd.move (t14 rfl)) <| DNew.rd rfl (Rd.move (t2 rfl)) <| DNew.rd rfl (Rd.move (t16 rfl)) <| DNew.rd rfl (Rd.move (t3 rfl)) <| DNew.nil ⟨?_, ?_⟩
 refine FDo.ef rfl (Ef.alloc Tryz.zeroValue64 rfl ?_)
 intro b2
 refine FAfter.mk [0, 1, 4, 5] rfl ?_ ?_
 exact DCar.rd rfl (lk4 rfl) (Rd.move (t19 rfl)) <| DCar.rd rfl (lk3 rfl) (Rd.move (t6 rfl)) <| DCar.rd rfl (lk2 rfl) (Rd.move (t19 rfl)) <| DCar.rd rfl (lk1 rfl) (Rd.move (t5 rfl)) <| .nil
 refine DRunF.ef rfl (Ef.call (.cons (t4 rfl) (.cons (t3 rfl) .nil)) (take_any p (subA (subA b 1 1 m) 1 2 (m - 1)) (k - 1 - 2) (m - 1 - 2) q.1.length q.1 (q.2 ++ (leafB (l.drop (x + 1)) ++ z)) rfl (by omega) (by omega) (by omega)) (by repeat constructor) ?_)
 rintro - -
 simp only [cA, nA]
 refine DRunF.at [4, 5] [3] rfl rfl ?_ ?_
 exact DCar.rd rfl (lk3 rfl) (Rd.move (t20 rfl)) <| DCar.rd rfl (lk2 rfl) (Rd.move (t6 rfl)) <| .nil
 refine DNew.rd rfl (Rd.byStr Tryz.underlying122 Tryz.underlying5 Tryz.underlying9 (t0 rfl) (Src.i (by repeat constructor)) (by first | (simp; done) | (simp; omega) | omega | (simp [*]; done) | (simp [*]; omega))) ?_
 refine DNew.nil <| DRunF.ef rfl (Ef.call (.cons (t4 rfl) (.cons (t3 rfl) .nil)) (take_any p (subA (subA (subA b 1 1 m) 1 2 (m - 1)) 1 q.1.length (m - 1 - 2)) (k - 1 - 2 - q.1.length) (m - 1 - 2 - q.1.length) q.2.length q.2 (leafB (l.drop (x + 1)) ++ z) rfl (by omega) (by omega) (by omega)) (by repeat constructor) ?_)
 rintro - -
 simp only [cA, nA]
 refine DRunF.at [3] [7, 8] rfl rfl ?_ ?_
 refine DCar.rd rfl (lk1 rfl) (Rd.byStr Tryz.underlying122 Tryz.underlying5 Tryz.underlying9 (t2 rfl) (Src.i (by repeat constructor)) (by first | (simp; done) | (simp; omega) | omega | (simp [*]; done) | (simp [*]; omega))) ?_
 exact .nil
 refine DNew.rd rfl (Rd.byStr Tryz.underlying122 Tryz.underlying5 Tryz.underlying9 (t0 rfl) (Src.i (by repeat constructor)) (by first | (simp; done) | (simp; omega) | omega | (simp [*]; done) | (simp [*]; omega))) ?_
 refine DNew.rd rfl (Rd.buildS (.cons (t2 rfl) (.cons (t0 rfl) .nil)) bld_64 (by repeat (first | exact FillN.nil | apply FillN.one rfl rfl (by repeat constructor)))) ?_
 refine DNew.nil <| DRunF.ef0 rfl (Ef.stB Tryz.sizeOf64 (t5 rfl) (t0 rfl) (by repeat constructor) (by repeat constructor) (by first | rfl | assumption | simp_all) (by first | rfl | assumption | simp_all) (by first | exact bv_one _ | exact cons_one rfl (bv_one _) | (simp [Value.oneCell']; done) | (simp [Value.oneCell', str]; done)) (by decide) ?_)
 refine DRunF.end [] [] rfl rfl ?_ ?_
 exact .nil
 refine DNew.n2 <| J.seq <| J.seq <| J.draw [lz, lz, lz, lz, lz, lz, lz, lz, lz, lz, lz, lz, lz, lz, lz, lz, lz, lz, lz, lz, lz, lz, lz, lz, lz, lz, lz, lz, lz, lz, lz, lz] [] mixed rfl <| DRun.end [] [0, 1, 2, 3, 4, 5, 6, 7, 8, 9, 10, 11, 12, 13, 14, 15, 16, 17, 18, 19, 20, 21, 22, 23, 24, 25, 26, 27, 28, 29, 30, 31] rfl rfl ?_ ?_
 exact .nil
 refine DNew.rd rfl (Rd.move (t24 rfl)) <| DNew.rd rfl (Rd.nil (t0 rfl)) <| DNew.rd rfl ((by first | exact Rd.fld0 fld_152_1 (t0 rfl) | exact Rd.fld fld_152_1 (t0 rfl))) ?_
 refine DNew.rd rfl (Rd.ldN Tryz.isAgg4 (t0 rfl) (by repeat constructor) (by repeat constructor)) ?_
 refine DNew.rd rfl (Rd.not (EvB (t0 rfl) rfl)) <| DNew.rd rfl (Rd.move (t0 rfl)) <| DNew.rdG rfl rfl (EvB (t0 rfl) rfl) rfl (Rd.move (t17 rfl)) <| DNew.rdG rfl rfl (EvB (t1 rfl) rfl) rfl (Rd.lss (t0 rfl) Ev.c) <| DNew.rd rfl (Rd.pickF (EvB (t2 rfl) rfl) (t0 rfl)) <| DNew.rd rfl (Rd.move (t0 rfl)) <| DNew.rdG rfl rfl (EvB (t0 rfl) (decide_eq_false (by omega))) rfl (Rd.move (t21 rfl)) ?_
 refine DNew.rdG rfl rfl (EvB (t1 rfl) (decide_eq_false (by omega))) rfl (Rd.gtr (t0 rfl) Ev.c) ?_
 refine DNew.rd rfl (Rd.pickF (EvB (t2 rfl) (decide_eq_false (by omega))) (t0 rfl)) ?_
 refine DNew.rd rfl (Rd.move (t0 rfl)) <| DNew.rdG rfl rfl (EvB (t0 rfl) (decide_eq_false (by omega))) rfl (Rd.move (t24 rfl)) ?_
 refine DNew.rdG rfl rfl (EvB (t1 rfl) (decide_eq_false (by omega))) rfl (Rd.gtr (t0 rfl) Ev.c) ?_
 refine DNew.rd rfl (Rd.pickF (EvB (t2 rfl) (decide_eq_false (by omega))) (t0 rfl)) ?_
 refine DNew.rd rfl (Rd.move (t0 rfl)) <| DNew.rdG rfl rfl (EvB (t0 rfl) (decide_eq_false (by omega))) rfl (Rd.move (t34 rfl)) ?_
 refine DNew.rdG rfl rfl (EvB (t1 rfl) (decide_eq_false (by omega))) rfl (Rd.gtr (t0 rfl) Ev.c) ?_
 refine DNew.rdG rfl rfl (EvB (t2 rfl) (decide_eq_false (by omega))) rfl (Rd.move (t0 rfl)) ?_
 refine DNew.caseD (t0 rfl) ?_ ?_
 intro hb3p hb3
 refine DNew.rdG rfl rfl (EvB (t0 rfl) hb3) rfl (Rd.move (t41 rfl)) <| DNew.rdG rfl rfl (EvB (t1 rfl) hb3) rfl (Rd.move (t38 rfl)) <| DNew.rdG rfl rfl (EvB (t2 rfl) hb3) rfl (Rd.sub (t0 rfl) Ev.c (w64 (by omega) (by omega))) ?_
 refine DNew.rdG rfl rfl (EvB (t3 rfl) hb3) rfl (Rd.sIdx Tryz.runUnderlying85 Tryz.sizeOf64 (t2 rfl) (t0 rfl) (Src.i (by repeat constructor)) (by first | (simp; done) | (simp; omega) | omega | (simp [*]; done) | (simp [*]; omega)) (by omega) (by omega)) ?_
 refine DNew.rdG rfl rfl (EvB (t4 rfl) hb3) rfl (Rd.sFld0 fld_64_0 (t0 rfl) (Src.i (by repeat constructor)) (List.getElem?_eq_some_iff.1 (hpv (by omega))).1) ?_
 refine DNew.rdG rfl rfl (EvB (t5 rfl) hb3) rfl (Rd.sLd Tryz.isAgg9 (t0 rfl) (Src.i (by repeat constructor)) (hpv (by omega)) rfl) ?_
 refine DNew.rdG rfl rfl (EvB (t6 rfl) hb3) rfl ((by first | exact Rd.fld0 fld_64_0 (t32 rfl) | exact Rd.fldz fld_64_0 (t32 rfl))) ?_
 refine DNew.rdG rfl rfl (EvB (t7 rfl) hb3) rfl (Rd.ldN Tryz.isAgg9 (t0 rfl) (by repeat constructor) (by repeat constructor)) ?_
 refine DNew.rdG rfl rfl (EvB (t8 rfl) hb3) rfl (Rd.str_geq (t2 rfl) (t0 rfl)) <| DNew.rdG rfl rfl (EvB (t12 rfl) (decide_eq_false (by omega))) rfl (Rd.pickT (EvB (t9 rfl) hb3) (t0 rfl)) ?_
 refine DNew.rd rfl (Rd.pickF (EvB (t13 rfl) (decide_eq_false (by omega))) (t0 rfl)) ?_
 refine DNew.n2 <| J.condF (EvB (t0 rfl) (by rw [hlt (by omega)]; rfl)) ?_
 refine J.skip <| At.next <| J.live (K := [(10, _), (12, _), (6, _), (11, _), (5, _), (4, _), (0, _)]) ⟨(lk37 rfl), (lk51 rfl), (lk52 rfl), (lk53 rfl), (lk54 rfl), (lk55 rfl), (lk56 rfl), trivial⟩ ?_
 intro ρ4
 refine J.region <| JL.mv (t2 rfl) <| JL.rd (Rd.ldB Tryz.isAgg64 Tryz.sizeOf64 (t1 rfl) (by repeat constructor) (by first | rfl | assumption | simp_all)) ?_
 refine JL.ef (Ef.slit1 elt_85 (t0 rfl) rfl rfl (by decide) ?_)
 intro b5
 refine JL.ef (Ef.appS elt_85 (t2 rfl) (t0 rfl) (by repeat constructor) (Src.i (by repeat constructor)) (by first | (simp; done) | (simp; omega) | omega | (simp [*]; done) | (simp [*]; omega)) (by first | (simp; done) | (simp; omega) | omega | (simp [*]; done) | (simp [*]; omega)) (by simp [Value.oneCell', str]) (by first | omega | (simp; omega)) (by first | (simp only [maxLen]; omega) | (simp [maxLen]; omega)) ?_)
 intro a6 c7
 refine JL.as (t0 rfl) <| JL.nil <| At.blkN <| At.next <| J.region <| JL.rd (Rd.add (t6 rfl) Ev.c (w64 (by omega) (by omega))) ?_
 refine JL.mv (t0 rfl) <| JL.nil ?_
 rw [show (l.take x).map itc ++ [[str q.1, str q.2]] = (l.take (x + 1)).map itc by rw [take_step hq]; simp [itc]]
 refine At.again ((x + 1, ((subA (subA (subA (subA b 1 1 m) 1 2 (m - 1)) 1 q.1.length (m - 1 - 2)) 1 q.2.length (m - 1 - 2 - q.1.length)), k - 1 - 2 - q.1.length - q.2.length, m - 1 - 2 - q.1.length - q.2.length), (a6, c7))) ?_ ?_ ⟨lk0.trans (by first | with_reducible rfl | (congr 1; omega) | (simp; done) | (simp [*]; done)), (lk2 rfl).trans (by first | with_reducible rfl | (congr 1; omega) | (simp; done) | (simp [*]; done)), trivial⟩ ⟨(lk10 rfl), (lk11 rfl), (lk12 rfl), (lk13 rfl), trivial⟩ (fun _ => Stars.sel (by repeat constructor))
 exact ⟨by show x + 1 ≤ l.length; omega, by show k - 1 - 2 - q.1.length - q.2.length = (leafB (l.drop (x + 1)) ++ z).length; omega, by show k - 1 - 2 - q.1.length - q.2.length ≤ m - 1 - 2 - q.1.length - q.2.length; omega, by show k - 1 - 2 - q.1.length - q.2.length ≤ _; omega⟩
 show l.length - (x + 1) < l.length - x; omega
 intro hb3p hb3
 refine DNew.skG rfl rfl (EvB (t0 rfl) hb3) rfl <| DNew.skG rfl rfl (EvB (t1 rfl) hb3) rfl <| DNew.skG rfl rfl (EvB (t2 rfl) hb3) rfl <| DNew.skG rfl rfl (EvB (t3 rfl) hb3) rfl <| DNew.skG rfl rfl (EvB (t4 rfl) hb3) rfl <| DNew.skG rfl rfl (EvB (t5 rfl) hb3) rfl <| DNew.skG rfl rfl (EvB (t6 rfl) hb3) rfl <| DNew.skG rfl rfl (EvB (t7 rfl) hb3) rfl <| DNew.skG rfl rfl (EvB (t8 rfl) hb3) rfl <| DNew.rdG rfl rfl (EvB (t12 rfl) (decide_eq_false (by omega))) rfl (Rd.pickF (EvB (t9 rfl) hb3) Ev.c) ?_
 refine DNew.rd rfl (Rd.pickF (EvB (t13 rfl) (decide_eq_false (by omega))) (t0 rfl)) ?_
 refine DNew.n2 <| J.condF (t0 rfl) <| J.skip <| At.next <| J.live (K := [(10, _), (12, _), (6, _), (11, _), (5, _), (4, _), (0, _)]) ⟨(lk37 rfl), (lk51 rfl), (lk52 rfl), (lk53 rfl), (lk54 rfl), (lk55 rfl), (lk56 rfl), trivial⟩ ?_
 intro ρ8
 refine J.region <| JL.mv (t2 rfl) <| JL.rd (Rd.ldB Tryz.isAgg64 Tryz.sizeOf64 (t1 rfl) (by repeat constructor) (by first | rfl | assumption | simp_all)) ?_
 refine JL.ef (Ef.slit1 elt_85 (t0 rfl) rfl rfl (by decide) ?_)
 intro b9
 refine JL.ef (Ef.appS elt_85 (t2 rfl) (t0 rfl) (by repeat constructor) (Src.i (by repeat constructor)) (by first | (simp; done) | (simp; omega) | omega | (simp [*]; done) | (simp [*]; omega)) (by first | (simp; done) | (simp; omega) | omega | (simp [*]; done) | (simp [*]; omega)) (by simp [Value.oneCell', str]) (by first | omega | (simp; omega)) (by first | (simp only [maxLen]; omega) | (simp [maxLen]; omega)) ?_)
 intro a10 c11
 refine JL.as (t0 rfl) <| JL.nil <| At.blkN <| At.next <| J.region <| JL.rd (Rd.add (t6 rfl) Ev.c (w64 (by omega) (by omega))) ?_
 refine JL.mv (t0 rfl) <| JL.nil ?_
 rw [show (l.take x).map itc ++ [[str q.1, str q.2]] = (l.take (x + 1)).map itc by rw [take_step hq]; simp [itc]]
 refine At.again ((x + 1, ((subA (subA (subA (subA b 1 1 m) 1 2 (m - 1)) 1 q.1.length (m - 1 - 2)) 1 q.2.length (m - 1 - 2 - q.1.length)), k - 1 - 2 - q.1.length - q.2.length, m - 1 - 2 - q.1.length - q.2.length), (a10, c11))) ?_ ?_ ⟨lk0.trans (by first | with_reducible rfl | (congr 1; omega) | (simp; done) | (simp [*]; done)), (lk2 rfl).trans (by first | with_reducible rfl | (congr 1; omega) | (simp; done) | (simp [*]; done)), trivial⟩ ⟨(lk10 rfl), (lk11 rfl), (lk12 rfl), (lk13 rfl), trivial⟩ (fun _ => Stars.sel (by repeat constructor))
 exact ⟨by show x + 1 ≤ l.length; omega, by show k - 1 - 2 - q.1.length - q.2.length = (leafB (l.drop (x + 1)) ++ z).length; omega, by show k - 1 - 2 - q.1.length - q.2.length ≤ m - 1 - 2 - q.1.length - q.2.length; omega, by show k - 1 - 2 - q.1.length - q.2.length ≤ _; omega⟩
 show l.length - (x + 1) < l.length - x; omega
 refine FRun.ef rfl (Ef.call (.cons (t3 rfl) (.cons (t2 rfl) .nil)) (take_any p (subA (subA b 1 1 m) 1 2 (m - 1)) (k - 1 - 2) (m - 1 - 2) q.1.length q.1 (q.2 ++ (leafB (l.drop (x + 1)) ++ z)) rfl (by omega) (by omega) (by omega)) (by repeat constructor) ?_)
 rintro - -
 simp only [cA, nA]
 refine FRun.at [4, 5] [3] rfl rfl ?_ ?_
 exact DCar.rd rfl (lk2 rfl) (Rd.move (t19 rfl)) <| DCar.rd rfl (lk1 rfl) (Rd.move (t5 rfl)) <| .nil
 refine DNew.rd rfl (Rd.byStr Tryz.underlying122 Tryz.underlying5 Tryz.underlying9 (t0 rfl) (Src.i (by repeat constructor)) (by first | (simp; done) | (simp; omega) | omega | (simp [*]; done) | (simp [*]; omega))) ?_
 refine DNew.nil ⟨?_, ?_⟩
 refine FDo.ef rfl (Ef.alloc Tryz.zeroValue64 rfl ?_)
 intro b12
 refine FAfter.mk [3, 4, 5] rfl ?_ ?_
 refine DCar.rd rfl (lk1 rfl) (Rd.byStr Tryz.underlying122 Tryz.underlying5 Tryz.underlying9 (t2 rfl) (Src.i (by repeat constructor)) (by first | (simp; done) | (simp; omega) | omega | (simp [*]; done) | (simp [*]; omega))) ?_
 exact DCar.rd rfl (lk4 rfl) (Rd.move (t21 rfl)) <| DCar.rd rfl (lk3 rfl) (Rd.move (t7 rfl)) <| .nil
 refine DRunF.ef rfl (Ef.call (.cons (t4 rfl) (.cons (t3 rfl) .nil)) (take_any p (subA (subA (subA b 1 1 m) 1 2 (m - 1)) 1 q.1.length (m - 1 - 2)) (k - 1 - 2 - q.1.length) (m - 1 - 2 - q.1.length) q.2.length q.2 (leafB (l.drop (x + 1)) ++ z) rfl (by omega) (by omega) (by omega)) (by repeat constructor) ?_)
 rintro - -
 simp only [cA, nA]
 refine DRunF.at [3] [7, 8] rfl rfl ?_ ?_
 refine DCar.rd rfl (lk2 rfl) (Rd.byStr Tryz.underlying122 Tryz.underlying5 Tryz.underlying9 (t3 rfl) (Src.i (by repeat constructor)) (by first | (simp; done) | (simp; omega) | omega | (simp [*]; done) | (simp [*]; omega))) ?_
 exact .nil
 refine DNew.rd rfl (Rd.byStr Tryz.underlying122 Tryz.underlying5 Tryz.underlying9 (t0 rfl) (Src.i (by repeat constructor)) (by first | (simp; done) | (simp; omega) | omega | (simp [*]; done) | (simp [*]; omega))) ?_
 refine DNew.rd rfl (Rd.buildS (.cons (t3 rfl) (.cons (t0 rfl) .nil)) bld_64 (by repeat (first | exact FillN.nil | apply FillN.one rfl rfl (by repeat constructor)))) ?_
 refine DNew.nil <| DRunF.ef0 rfl (Ef.stB Tryz.sizeOf64 (t3 rfl) (t0 rfl) (by repeat constructor) (by repeat constructor) (by first | rfl | assumption | simp_all) (by first | rfl | assumption | simp_all) (by first | exact bv_one _ | exact cons_one rfl (bv_one _) | (simp [Value.oneCell']; done) | (simp [Value.oneCell', str]; done)) (by decide) ?_)
 refine DRunF.end [] [] rfl rfl ?_ ?_
 exact .nil
 refine DNew.n2 <| J.seq <| J.seq <| J.draw [lz, lz, lz, lz, lz, lz, lz, lz, lz, lz, lz, lz, lz, lz, lz, lz, lz, lz, lz, lz, lz, lz, lz, lz, lz, lz, lz, lz, lz, lz, lz, lz] [] mixed rfl <| DRun.end [] [0, 1, 2, 3, 4, 5, 6, 7, 8, 9, 10, 11, 12, 13, 14, 15, 16, 17, 18, 19, 20, 21, 22, 23, 24, 25, 26, 27, 28, 29, 30, 31] rfl rfl ?_ ?_
 exact .nil
 refine DNew.rd rfl (Rd.move (t24 rfl)) <| DNew.rd rfl (Rd.nil (t0 rfl)) <| DNew.rd rfl ((by first | exact Rd.fld0 fld_152_1 (t0 rfl) | exact Rd.fld fld_152_1 (t0 rfl))) ?_
 refine DNew.rd rfl (Rd.ldN Tryz.isAgg4 (t0 rfl) (by repeat constructor) (by repeat constructor)) ?_
 refine DNew.rd rfl (Rd.not (EvB (t0 rfl) rfl)) <| DNew.rd rfl (Rd.move (t0 rfl)) <| DNew.rdG rfl rfl (EvB (t0 rfl) rfl) rfl (Rd.move (t17 rfl)) <| DNew.rdG rfl rfl (EvB (t1 rfl) rfl) rfl (Rd.lss (t0 rfl) Ev.c) <| DNew.rd rfl (Rd.pickF (EvB (t2 rfl) rfl) (t0 rfl)) <| DNew.rd rfl (Rd.move (t0 rfl)) <| DNew.rdG rfl rfl (EvB (t0 rfl) (decide_eq_false (by omega))) rfl (Rd.move (t21 rfl)) ?_
 refine DNew.rdG rfl rfl (EvB (t1 rfl) (decide_eq_false (by omega))) rfl (Rd.gtr (t0 rfl) Ev.c) ?_
 refine DNew.rd rfl (Rd.pickF (EvB (t2 rfl) (decide_eq_false (by omega))) (t0 rfl)) ?_
 refine DNew.rd rfl (Rd.move (t0 rfl)) <| DNew.rdG rfl rfl (EvB (t0 rfl) (decide_eq_false (by omega))) rfl (Rd.move (t24 rfl)) ?_
 refine DNew.rdG rfl rfl (EvB (t1 rfl) (decide_eq_false (by omega))) rfl (Rd.gtr (t0 rfl) Ev.c) ?_
 refine DNew.rd rfl (Rd.pickF (EvB (t2 rfl) (decide_eq_false (by omega))) (t0 rfl)) ?_
 refine DNew.rd rfl (Rd.move (t0 rfl)) <| DNew.rdG rfl rfl (EvB (t0 rfl) (decide_eq_false (by omega))) rfl (Rd.move (t34 rfl)) ?_
 refine DNew.rdG rfl rfl (EvB (t1 rfl) (decide_eq_false (by omega))) rfl (Rd.gtr (t0 rfl) Ev.c) ?_
 refine DNew.rdG rfl rfl (EvB (t2 rfl) (decide_eq_false (by omega))) rfl (Rd.move (t0 rfl)) ?_
 refine DNew.caseD (t0 rfl) ?_ ?_
 intro hb13p hb13
 refine DNew.rdG rfl rfl (EvB (t0 rfl) hb13) rfl (Rd.move (t41 rfl)) <| DNew.rdG rfl rfl (EvB (t1 rfl) hb13) rfl (Rd.move (t38 rfl)) <| DNew.rdG rfl rfl (EvB (t2 rfl) hb13) rfl (Rd.sub (t0 rfl) Ev.c (w64 (by omega) (by omega))) ?_
 refine DNew.rdG rfl rfl (EvB (t3 rfl) hb13) rfl (Rd.sIdx Tryz.runUnderlying85 Tryz.sizeOf64 (t2 rfl) (t0 rfl) (Src.i (by repeat constructor)) (by first | (simp; done) | (simp; omega) | omega | (simp [*]; done) | (simp [*]; omega)) (by omega) (by omega)) ?_
 refine DNew.rdG rfl rfl (EvB (t4 rfl) hb13) rfl (Rd.sFld0 fld_64_0 (t0 rfl) (Src.i (by repeat constructor)) (List.getElem?_eq_some_iff.1 (hpv (by omega))).1) ?_
 refine DNew.rdG rfl rfl (EvB (t5 rfl) hb13) rfl (Rd.sLd Tryz.isAgg9 (t0 rfl) (Src.i (by repeat constructor)) (hpv (by omega)) rfl) ?_
 refine DNew.rdG rfl rfl (EvB (t6 rfl) hb13) rfl ((by first | exact Rd.fld0 fld_64_0 (t30 rfl) | exact Rd.fldz fld_64_0 (t30 rfl))) ?_
 refine DNew.rdG rfl rfl (EvB (t7 rfl) hb13) rfl (Rd.ldN Tryz.isAgg9 (t0 rfl) (by repeat constructor) (by repeat constructor)) ?_
 refine DNew.rdG rfl rfl (EvB (t8 rfl) hb13) rfl (Rd.str_geq (t2 rfl) (t0 rfl)) <| DNew.rdG rfl rfl (EvB (t12 rfl) (decide_eq_false (by omega))) rfl (Rd.pickT (EvB (t9 rfl) hb13) (t0 rfl)) ?_
 refine DNew.rd rfl (Rd.pickF (EvB (t13 rfl) (decide_eq_false (by omega))) (t0 rfl)) ?_
 refine DNew.n2 <| J.condF (EvB (t0 rfl) (by rw [hlt (by omega)]; rfl)) ?_
 refine J.skip <| At.next <| J.live (K := [(10, _), (12, _), (6, _), (11, _), (5, _), (4, _), (0, _)]) ⟨(lk35 rfl), (lk51 rfl), (lk52 rfl), (lk53 rfl), (lk54 rfl), (lk55 rfl), (lk56 rfl), trivial⟩ ?_
 intro ρ14
 refine J.region <| JL.mv (t2 rfl) <| JL.rd (Rd.ldB Tryz.isAgg64 Tryz.sizeOf64 (t1 rfl) (by repeat constructor) (by first | rfl | assumption | simp_all)) ?_
 refine JL.ef (Ef.slit1 elt_85 (t0 rfl) rfl rfl (by decide) ?_)
 intro b15
 refine JL.ef (Ef.appS elt_85 (t2 rfl) (t0 rfl) (by repeat constructor) (Src.i (by repeat constructor)) (by first | (simp; done) | (simp; omega) | omega | (simp [*]; done) | (simp [*]; omega)) (by first | (simp; done) | (simp; omega) | omega | (simp [*]; done) | (simp [*]; omega)) (by simp [Value.oneCell', str]) (by first | omega | (simp; omega)) (by first | (simp only [maxLen]; omega) | (simp [maxLen]; omega)) ?_)
 intro a16 c17
 refine JL.as (t0 rfl) <| JL.nil <| At.blkN <| At.next <| J.region <| JL.rd (Rd.add (t6 rfl) Ev.c (w64 (by omega) (by omega))) ?_
 refine JL.mv (t0 rfl) <| JL.nil ?_
 rw [show (l.take x).map itc ++ [[str q.1, str q.2]] = (l.take (x + 1)).map itc by rw [take_step hq]; simp [itc]]
 refine At.again ((x + 1, ((subA (subA (subA (subA b 1 1 m) 1 2 (m - 1)) 1 q.1.length (m - 1 - 2)) 1 q.2.length (m - 1 - 2 - q.1.length)), k - 1 - 2 - q.1.length - q.2.length, m - 1 - 2 - q.1.length - q.2.length), (a16, c17))) ?_ ?_ ⟨lk0.trans (by first | with_reducible rfl | (congr 1; omega) | (simp; done) | (simp [*]; done)), (lk2 rfl).trans (by first | with_reducible rfl | (congr 1; omega) | (simp; done) | (simp [*]; done)), trivial⟩ ⟨(lk10 rfl), (lk11 rfl), (lk12 rfl), (lk13 rfl), trivial⟩ (fun _ => Stars.sel (by repeat constructor))
 exact ⟨by show x + 1 ≤ l.length; omega, by show k - 1 - 2 - q.1.length - q.2.length = (leafB (l.drop (x + 1)) ++ z).length; omega, by show k - 1 - 2 - q.1.length - q.2.length ≤ m - 1 - 2 - q.1.length - q.2.length; omega, by show k - 1 - 2 - q.1.length - q.2.length ≤ _; omega⟩
 show l.length - (x + 1) < l.length - x; omega
 intro hb13p hb13
 refine DNew.skG rfl rfl (EvB (t0 rfl) hb13) rfl <| DNew.skG rfl rfl (EvB (t1 rfl) hb13) rfl <| DNew.skG rfl rfl (EvB (t2 rfl) hb13) rfl <| DNew.skG rfl rfl (EvB (t3 rfl) hb13) rfl <| DNew.skG rfl rfl (EvB (t4 rfl) hb13) rfl <| DNew.skG rfl rfl (EvB (t5 rfl) hb13) rfl <| DNew.skG rfl rfl (EvB (t6 rfl) hb13) rfl <| DNew.skG rfl rfl (EvB (t7 rfl) hb13) rfl <| DNew.skG rfl rfl (EvB (t8 rfl) hb13) rfl <| DNew.rdG rfl rfl (EvB (t12 rfl) (decide_eq_false (by omega))) rfl (Rd.pickF (EvB (t9 rfl) hb13) Ev.c) ?_
 refine DNew.rd rfl (Rd.pickF (EvB (t13 rfl) (decide_eq_false (by omega))) (t0 rfl)) ?_
 refine DNew.n2 <| J.condF (t0 rfl) <| J.skip <| At.next <| J.live (K := [(10, _), (12, _), (6, _), (11, _), (5, _), (4, _), (0, _)]) ⟨(lk35 rfl), (lk51 rfl), (lk52 rfl), (lk53 rfl), (lk54 rfl), (lk55 rfl), (lk56 rfl), trivial⟩ ?_
 intro ρ18
 refine J.region <| JL.mv (t2 rfl) <| JL.rd (Rd.ldB Tryz.isAgg64 Tryz.sizeOf64 (t1 rfl) (by repeat constructor) (by first | rfl | assumption | simp_all)) ?_
 refine JL.ef (Ef.slit1 elt_85 (t0 rfl) rfl rfl (by decide) ?_)
 intro b19
 refine JL.ef (Ef.appS elt_85 (t2 rfl) (t0 rfl) (by repeat constructor) (Src.i (by repeat constructor)) (by first | (simp; done) | (simp; omega) | omega | (simp [*]; done) | (simp [*]; omega)) (by first | (simp; done) | (simp; omega) | omega | (simp [*]; done) | (simp [*]; omega)) (by simp [Value.oneCell', str]) (by first | omega | (simp; omega)) (by first | (simp only [maxLen]; omega) | (simp [maxLen]; omega)) ?_)
 intro a20 c21
 refine JL.as (t0 rfl) <| JL.nil <| At.blkN <| At.next <| J.region <| JL.rd (Rd.add (t6 rfl) Ev.c (w64 (by omega) (by omega))) ?_
 refine JL.mv (t0 rfl) <| JL.nil ?_
 rw [show (l.take x).map itc ++ [[str q.1, str q.2]] = (l.take (x + 1)).map itc by rw [take_step hq]; simp [itc]]
 refine At.again ((x + 1, ((subA (subA (subA (subA b 1 1 m) 1 2 (m - 1)) 1 q.1.length (m - 1 - 2)) 1 q.2.length (m - 1 - 2 - q.1.length)), k - 1 - 2 - q.1.length - q.2.length, m - 1 - 2 - q.1.length - q.2.length), (a20, c21))) ?_ ?_ ⟨lk0.trans (by first | with_reducible rfl | (congr 1; omega) | (simp; done) | (simp [*]; done)), (lk2 rfl).trans (by first | with_reducible rfl | (congr 1; omega) | (simp; done) | (simp [*]; done)), trivial⟩ ⟨(lk10 rfl), (lk11 rfl), (lk12 rfl), (lk13 rfl), trivial⟩ (fun _ => Stars.sel (by repeat constructor))
 exact ⟨by show x + 1 ≤ l.length; omega, by show k - 1 - 2 - q.1.length - q.2.length = (leafB (l.drop (x + 1)) ++ z).length; omega, by show k - 1 - 2 - q.1.length - q.2.length ≤ m - 1 - 2 - q.1.length - q.2.length; omega, by show k - 1 - 2 - q.1.length - q.2.length ≤ _; omega⟩
 show l.length - (x + 1) < l.length - x; omega
 refine FRun.ef rfl (Ef.call (.cons (t3 rfl) (.cons (t2 rfl) .nil)) (take_any p (subA (subA (subA b 1 1 m) 1 2 (m - 1)) 1 q.1.length (m - 1 - 2)) (k - 1 - 2 - q.1.length) (m - 1 - 2 - q.1.length) q.2.length q.2 (leafB (l.drop (x + 1)) ++ z) rfl (by omega) (by omega) (by omega)) (by repeat constructor) ?_)
 rintro - -
 simp only [cA, nA]
 refine FRun.at [3] [7, 8] rfl rfl ?_ ?_
 refine DCar.rd rfl (lk1 rfl) (Rd.byStr Tryz.underlying122 Tryz.underlying5 Tryz.underlying9 (t2 rfl) (Src.i (by repeat constructor)) (by first | (simp; done) | (simp; omega) | omega | (simp [*]; done) | (simp [*]; omega))) ?_
 exact .nil
 refine DNew.rd rfl (Rd.byStr Tryz.underlying122 Tryz.underlying5 Tryz.underlying9 (t0 rfl) (Src.i (by repeat constructor)) (by first | (simp; done) | (simp; omega) | omega | (simp [*]; done) | (simp [*]; omega))) ?_
 refine DNew.rd rfl (Rd.buildS (.cons (t2 rfl) (.cons (t0 rfl) .nil)) bld_64 (by repeat (first | exact FillN.nil | apply FillN.one rfl rfl (by repeat constructor)))) ?_
 refine DNew.nil ⟨?_, ?_⟩
 refine FDo.ef rfl (Ef.alloc Tryz.zeroValue64 rfl ?_)
 intro b22
 refine FAfter.mk [3, 7, 8] rfl ?_ ?_
 refine DCar.rd rfl (lk4 rfl) (Rd.byStr Tryz.underlying122 Tryz.underlying5 Tryz.underlying9 (t5 rfl) (Src.i (by repeat constructor)) (by first | (simp; done) | (simp; omega) | omega | (simp [*]; done) | (simp [*]; omega))) ?_
 refine DCar.rd rfl (lk2 rfl) (Rd.byStr Tryz.underlying122 Tryz.underlying5 Tryz.underlying9 (t3 rfl) (Src.i (by repeat constructor)) (by first | (simp; done) | (simp; omega) | omega | (simp [*]; done) | (simp [*]; omega))) ?_
 refine DCar.rd rfl (lk1 rfl) (Rd.buildS (.cons (t4 rfl) (.cons (t2 rfl) .nil)) bld_64 (by repeat (first | exact FillN.nil | apply FillN.one rfl rfl (by repeat constructor)))) ?_
 exact .nil
 refine DRunF.ef0 rfl (Ef.stB Tryz.sizeOf64 (t0 rfl) (t1 rfl) (by repeat constructor) (by repeat constructor) (by first | rfl | assumption | simp_all) (by first | rfl | assumption | simp_all) (by first | exact bv_one _ | exact cons_one rfl (bv_one _) | (simp [Value.oneCell']; done) | (simp [Value.oneCell', str]; done)) (by decide) ?_)
 refine DRunF.end [] [] rfl rfl ?_ ?_
 exact .nil
 refine DNew.n2 <| J.seq <| J.seq <| J.draw [lz, lz, lz, lz, lz, lz, lz, lz, lz, lz, lz, lz, lz, lz, lz, lz, lz, lz, lz, lz, lz, lz, lz, lz, lz, lz, lz, lz, lz, lz, lz, lz] [] mixed rfl <| DRun.end [] [0, 1, 2, 3, 4, 5, 6, 7, 8, 9, 10, 11, 12, 13, 14, 15, 16, 17, 18, 19, 20, 21, 22, 23, 24, 25, 26, 27, 28, 29, 30, 31] rfl rfl ?_ ?_
 exact .nil
 refine DNew.rd rfl (Rd.move (t24 rfl)) <| DNew.rd rfl (Rd.nil (t0 rfl)) <| DNew.rd rfl ((by first | exact Rd.fld0 fld_152_1 (t0 rfl) | exact Rd.fld fld_152_1 (t0 rfl))) ?_
 refine DNew.rd rfl (Rd.ldN Tryz.isAgg4 (t0 rfl) (by repeat constructor) (by repeat constructor)) ?_
 refine DNew.rd rfl (Rd.not (EvB (t0 rfl) rfl)) <| DNew.rd rfl (Rd.move (t0 rfl)) <| DNew.rdG rfl rfl (EvB (t0 rfl) rfl) rfl (Rd.move (t17 rfl)) <| DNew.rdG rfl rfl (EvB (t1 rfl) rfl) rfl (Rd.lss (t0 rfl) Ev.c) <| DNew.rd rfl (Rd.pickF (EvB (t2 rfl) rfl) (t0 rfl)) <| DNew.rd rfl (Rd.move (t0 rfl)) <| DNew.rdG rfl rfl (EvB (t0 rfl) (decide_eq_false (by omega))) rfl (Rd.move (t21 rfl)) ?_
 refine DNew.rdG rfl rfl (EvB (t1 rfl) (decide_eq_false (by omega))) rfl (Rd.gtr (t0 rfl) Ev.c) ?_
 refine DNew.rd rfl (Rd.pickF (EvB (t2 rfl) (decide_eq_false (by omega))) (t0 rfl)) ?_
 refine DNew.rd rfl (Rd.move (t0 rfl)) <| DNew.rdG rfl rfl (EvB (t0 rfl) (decide_eq_false (by omega))) rfl (Rd.move (t24 rfl)) ?_
 refine DNew.rdG rfl rfl (EvB (t1 rfl) (decide_eq_false (by omega))) rfl (Rd.gtr (t0 rfl) Ev.c) ?_
 refine DNew.rd rfl (Rd.pickF (EvB (t2 rfl) (decide_eq_false (by omega))) (t0 rfl)) ?_
 refine DNew.rd rfl (Rd.move (t0 rfl)) <| DNew.rdG rfl rfl (EvB (t0 rfl) (decide_eq_false (by omega))) rfl (Rd.move (t34 rfl)) ?_
 refine DNew.rdG rfl rfl (EvB (t1 rfl) (decide_eq_false (by omega))) rfl (Rd.gtr (t0 rfl) Ev.c) ?_
 refine DNew.rdG rfl rfl (EvB (t2 rfl) (decide_eq_false (by omega))) rfl (Rd.move (t0 rfl)) ?_
 refine DNew.caseD (t0 rfl) ?_ ?_
 intro hb23p hb23
 refine DNew.rdG rfl rfl (EvB (t0 rfl) hb23) rfl (Rd.move (t41 rfl)) <| DNew.rdG rfl rfl (EvB (t1 rfl) hb23) rfl (Rd.move (t38 rfl)) <| DNew.rdG rfl rfl (EvB (t2 rfl) hb23) rfl (Rd.sub (t0 rfl) Ev.c (w64 (by omega) (by omega))) ?_
 refine DNew.rdG rfl rfl (EvB (t3 rfl) hb23) rfl (Rd.sIdx Tryz.runUnderlying85 Tryz.sizeOf64 (t2 rfl) (t0 rfl) (Src.i (by repeat constructor)) (by first | (simp; done) | (simp; omega) | omega | (simp [*]; done) | (simp [*]; omega)) (by omega) (by omega)) ?_
 refine DNew.rdG rfl rfl (EvB (t4 rfl) hb23) rfl (Rd.sFld0 fld_64_0 (t0 rfl) (Src.i (by repeat constructor)) (List.getElem?_eq_some_iff.1 (hpv (by omega))).1) ?_
 refine DNew.rdG rfl rfl (EvB (t5 rfl) hb23) rfl (Rd.sLd Tryz.isAgg9 (t0 rfl) (Src.i (by repeat constructor)) (hpv (by omega)) rfl) ?_
 refine DNew.rdG rfl rfl (EvB (t6 rfl) hb23) rfl ((by first | exact Rd.fld0 fld_64_0 (t27 rfl) | exact Rd.fldz fld_64_0 (t27 rfl))) ?_
 refine DNew.rdG rfl rfl (EvB (t7 rfl) hb23) rfl (Rd.ldN Tryz.isAgg9 (t0 rfl) (by repeat constructor) (by repeat constructor)) ?_
 refine DNew.rdG rfl rfl (EvB (t8 rfl) hb23) rfl (Rd.str_geq (t2 rfl) (t0 rfl)) <| DNew.rdG rfl rfl (EvB (t12 rfl) (decide_eq_false (by omega))) rfl (Rd.pickT (EvB (t9 rfl) hb23) (t0 rfl)) ?_
 refine DNew.rd rfl (Rd.pickF (EvB (t13 rfl) (decide_eq_false (by omega))) (t0 rfl)) ?_
 refine DNew.n2 <| J.condF (EvB (t0 rfl) (by rw [hlt (by omega)]; rfl)) ?_
 refine J.skip <| At.next <| J.live (K := [(10, _), (12, _), (6, _), (11, _), (5, _), (4, _), (0, _)]) ⟨(lk32 rfl), (lk51 rfl), (lk52 rfl), (lk53 rfl), (lk54 rfl), (lk55 rfl), (lk56 rfl), trivial⟩ ?_
 intro ρ24
 refine J.region <| JL.mv (t2 rfl) <| JL.rd (Rd.ldB Tryz.isAgg64 Tryz.sizeOf64 (t1 rfl) (by repeat constructor) (by first | rfl | assumption | simp_all)) ?_
 refine JL.ef (Ef.slit1 elt_85 (t0 rfl) rfl rfl (by decide) ?_)
 intro b25
 refine JL.ef (Ef.appS elt_85 (t2 rfl) (t0 rfl) (by repeat constructor) (Src.i (by repeat constructor)) (by first | (simp; done) | (simp; omega) | omega | (simp [*]; done) | (simp [*]; omega)) (by first | (simp; done) | (simp; omega) | omega | (simp [*]; done) | (simp [*]; omega)) (by simp [Value.oneCell', str]) (by first | omega | (simp; omega)) (by first | (simp only [maxLen]; omega) | (simp [maxLen]; omega)) ?_)
 intro a26 c27
 refine JL.as (t0 rfl) <| JL.nil <| At.blkN <| At.next <| J.region <| JL.rd (Rd.add (t6 rfl) Ev.c (w64 (by omega) (by omega))) ?_
 refine JL.mv (t0 rfl) <| JL.nil ?_
 rw [show (l.take x).map itc ++ [[str q.1, str q.2]] = (l.take (x + 1)).map itc by rw [take_step hq]; simp [itc]]
 refine At.again ((x + 1, ((subA (subA (subA (subA b 1 1 m) 1 2 (m - 1)) 1 q.1.length (m - 1 - 2)) 1 q.2.length (m - 1 - 2 - q.1.length)), k - 1 - 2 - q.1.length - q.2.length, m - 1 - 2 - q.1.length - q.2.length), (a26, c27))) ?_ ?_ ⟨lk0.trans (by first | with_reducible rfl | (congr 1; omega) | (simp; done) | (simp [*]; done)), (lk2 rfl).trans (by first | with_reducible rfl | (congr 1; omega) | (simp; done) | (simp [*]; done)), trivial⟩ ⟨(lk10 rfl), (lk11 rfl), (lk12 rfl), (lk13 rfl), trivial⟩ (fun _ => Stars.sel (by repeat constructor))
 exact ⟨by show x + 1 ≤ l.length; omega, by show k - 1 - 2 - q.1.length - q.2.length = (leafB (l.drop (x + 1)) ++ z).length; omega, by show k - 1 - 2 - q.1.length - q.2.length ≤ m - 1 - 2 - q.1.length - q.2.length; omega, by show k - 1 - 2 - q.1.length - q.2.length ≤ _; omega⟩
 show l.length - (x + 1) < l.length - x; omega
 intro hb23p hb23
 refine DNew.skG rfl rfl (EvB (t0 rfl) hb23) rfl <| DNew.skG rfl rfl (EvB (t1 rfl) hb23) rfl <| DNew.skG rfl rfl (EvB (t2 rfl) hb23) rfl <| DNew.skG rfl rfl (EvB (t3 rfl) hb23) rfl <| DNew.skG rfl rfl (EvB (t4 rfl) hb23) rfl <| DNew.skG rfl rfl (EvB (t5 rfl) hb23) rfl <| DNew.skG rfl rfl (EvB (t6 rfl) hb23) rfl <| DNew.skG rfl rfl (EvB (t7 rfl) hb23) rfl <| DNew.skG rfl rfl (EvB (t8 rfl) hb23) rfl <| DNew.rdG rfl rfl (EvB (t12 rfl) (decide_eq_false (by omega))) rfl (Rd.pickF (EvB (t9 rfl) hb23) Ev.c) ?_
 refine DNew.rd rfl (Rd.pickF (EvB (t13 rfl) (decide_eq_false (by omega))) (t0 rfl)) ?_
 refine DNew.n2 <| J.condF (t0 rfl) <| J.skip <| At.next <| J.live (K := [(10, _), (12, _), (6, _), (11, _), (5, _), (4, _), (0, _)]) ⟨(lk32 rfl), (lk51 rfl), (lk52 rfl), (lk53 rfl), (lk54 rfl), (lk55 rfl), (lk56 rfl), trivial⟩ ?_
 intro ρ28
 refine J.region <| JL.mv (t2 rfl) <| JL.rd (Rd.ldB Tryz.isAgg64 Tryz.sizeOf64 (t1 rfl) (by repeat constructor) (by first | rfl | assumption | simp_all)) ?_
 refine JL.ef (Ef.slit1 elt_85 (t0 rfl) rfl rfl (by decide) ?_)
 intro b29
 refine JL.ef (Ef.appS elt_85 (t2 rfl) (t0 rfl) (by repeat constructor) (Src.i (by repeat constructor)) (by first | (simp; done) | (simp; omega) | omega | (simp [*]; done) | (simp [*]; omega)) (by first | (simp; done) | (simp; omega) | omega | (simp [*]; done) | (simp [*]; omega)) (by simp [Value.oneCell', str]) (by first | omega | (simp; omega)) (by first | (simp only [maxLen]; omega) | (simp [maxLen]; omega)) ?_)
 intro a30 c31
 refine JL.as (t0 rfl) <| JL.nil <| At.blkN <| At.next <| J.region <| JL.rd (Rd.add (t6 rfl) Ev.c (w64 (by omega) (by omega))) ?_
 refine JL.mv (t0 rfl) <| JL.nil ?_
 rw [show (l.take x).map itc ++ [[str q.1, str q.2]] = (l.take (x + 1)).map itc by rw [take_step hq]; simp [itc]]
 refine At.again ((x + 1, ((subA (subA (subA (subA b 1 1 m) 1 2 (m - 1)) 1 q.1.length (m - 1 - 2)) 1 q.2.length (m - 1 - 2 - q.1.length)), k - 1 - 2 - q.1.length - q.2.length, m - 1 - 2 - q.1.length - q.2.length), (a30, c31))) ?_ ?_ ⟨lk0.trans (by first | with_reducible rfl | (congr 1; omega) | (simp; done) | (simp [*]; done)), (lk2 rfl).trans (by first | with_reducible rfl | (congr 1; omega) | (simp; done) | (simp [*]; done)), trivial⟩ ⟨(lk10 rfl), (lk11 rfl), (lk12 rfl), (lk13 rfl), trivial⟩ (fun _ => Stars.sel (by repeat constructor))
 exact ⟨by show x + 1 ≤ l.length; omega, by show k - 1 - 2 - q.1.length - q.2.length = (leafB (l.drop (x + 1)) ++ z).length; omega, by show k - 1 - 2 - q.1.length - q.2.length ≤ m - 1 - 2 - q.1.length - q.2.length; omega, by show k - 1 - 2 - q.1.length - q.2.length ≤ _; omega⟩
 show l.length - (x + 1) < l.length - x; omega
 exact FRun.last rfl rfl
 intro hc1
 obtain rfl : x = l.length := by omega
 rw [List.take_length]
 refine J.know (fun h s => row_cap (Stars.sel (pre := [row ra rc 64 2 (l.map itc)]) (by repeat constructor) s)) ?_
 intro hcap
 refine J.exit <| At.nextX <| At.loopX <| At.blkX <| At.next <| J.seq <| J.sr <| JL.mv (t2 rfl) <| JL.rd (Rd.len Tryz.runUnderlying85 (t0 rfl)) <| JL.rd (Rd.eql (t0 rfl) Ev.c) <| JL.n2 <| J.condD (t0 rfl) ?_ ?_
 intro hc32
 omega
 intro hc32
 refine J.k4 <| JL.mv (t5 rfl) <| JL.rd (Rd.iface (t0 rfl) Tryz.runUnderlying85 (fun _ h => by cases h)) <| JL.as (t0 rfl) <| JL.as Ev.c <| JL.nr <| At.demote (by repeat constructor) ?_
 exact At.r ((ra, rc)) (by simpa using hcap) (ResV.two rfl (t1 rfl) (t0 rfl)) rfl
/-- What is left of an inner node's bytes before the child x. -/
def sufI (l : List Kd) (x : Nat) : Bs := if x = 0 then innerB l else (l.drop x).flatMap kidB
def restI (l : List Kd) (z : Bs) (x : Nat) (q : Kd) : Bs := if x = 0 then sufI l 1 ++ z else [UInt8.ofNat q.1.length] ++ (q.1 ++ (sufI l (x + 1) ++ z))
theorem sufI_step {l : List Kd} {x : Nat} {q : Kd} (h : l[x]? = some q) (z : Bs) : sufI l x ++ z = be4 q.2 ++ restI l z x q := by
  have h1 := List.getElem?_eq_some_iff.1 h
  by_cases h0 : x = 0
  · subst h0
    cases l with
    | nil => cases h
    | cons p l =>
      cases h
      simp [sufI, restI, innerB]
  · have e : l.drop x = q :: l.drop (x + 1) := by rw [List.drop_eq_getElem_cons h1.1, h1.2]
    unfold sufI restI
    rw [if_neg h0, if_neg h0, e]
    simp [kidB, sufI]
theorem restI_pos {l : List Kd} {z : Bs} {x : Nat} {q : Kd} (h : 0 < x) : restI l z x q = [UInt8.ofNat q.1.length] ++ (q.1 ++ (sufI l (x + 1) ++ z)) := if_neg (by omega)
theorem restI_zero {l : List Kd} {z : Bs} {q : Kd} : restI l z 0 q = sufI l (0 + 1) ++ z := rfl
theorem be4_length (n : Nat) : (be4 n).length = 4 := rfl

set_option maxHeartbeats 400000 in
theorem inners_any (p : Nat) (a : Option Addr) (n c : Nat) (l : List Kd) (z : Bs) (hn : n = (innerB l ++ z).length) (hc : n ≤ c) (hl : n ≤ 1048576) (hl2 : 2 ≤ l.length) (hok : ∀ q ∈ l, kdOk q) (hq0 : ∀ q, l[0]? = some q → q.1 = []) (hne : ∀ i q, 0 < i → l[i]? = some q → q.1 ≠ []) (hs : ∀ i j q r, 0 < i → i < j → l[i]? = some q → l[j]? = some r → slt q.1 r.1 = true) (hll : l.length ≤ 1048576) :
    Fn Tryz.prog 78 [.pointer (some ⟨p, 0, none⟩), .int .i64 (l.length : Int)] [pts p (.cells [.slice a n c, .bool true].toArray 152), rowR a 1 (b1s (innerB l ++ z))] (X := Option Addr × Nat) (fun x => l.length ≤ x.2) (fun x => .tuple #[.iface 89 (.slice x.1 l.length x.2), .int .i64 0]) (fun x => [rowR x.1 2 (l.map kdc)]) := by
 refine Fn.mk' (n := 63) (l := [(0, .pointer (some ⟨p, 0, none⟩)), (1, .int .i64 (l.length : Int))]) (fn := Tryz.f78) Tryz.func78 (by kernel_rfl) rfl rfl (by simp) rfl ?_
 intro h0 w0
 refine J.sr <| JL.as Ev.c <| JL.as Ev.c <| JL.n4 <| JL.as Ev.c <| JL.n5 <| JL.mv (t4 rfl) <| JL.mv Ev.c <| JL.nb <| J.loop (X := Nat × (Option Addr × Nat × Nat) × (Option Addr × Nat)) (fun (x : Nat × (Option Addr × Nat × Nat) × (Option Addr × Nat)) => [(10, .int .i64 (x.1 : Int)), (6, .slice x.2.2.1 x.1 x.2.2.2)]) (K := [(9, _), (5, _), (4, _), (0, _)]) (fun x => [pts p (.cells [.slice x.2.1.1 x.2.1.2.1 x.2.1.2.2, .bool true].toArray 152), rowR x.2.1.1 1 (b1s (sufI l x.1 ++ z)), row x.2.2.1 x.2.2.2 91 2 ((l.take x.1).map kdc)]) (fun x => x.1 ≤ l.length ∧ x.2.1.2.1 = (sufI l x.1 ++ z).length ∧ x.2.1.2.1 ≤ x.2.1.2.2 ∧ x.2.1.2.1 ≤ 1048576) (fun x => l.length - x.1) ((0, (a, n, c), (none, 0))) ?_ ⟨lk0.trans (by first | with_reducible rfl | (congr 1; omega) | (simp; done) | (simp [*]; done)), (lk2 rfl).trans (by first | with_reducible rfl | (congr 1; omega) | (simp; done) | (simp [*]; done)), trivial⟩ ⟨(lk1 rfl), (lk3 rfl), (lk4 rfl), (lk5 rfl), trivial⟩ (fun _ s => Stars.sel (by repeat constructor) (row_nil 91 2 s)) ?_
 exact ⟨Nat.zero_le _, hn, hc, hl⟩
 rintro ⟨x, ⟨b, k, m⟩, ⟨ra, rc⟩⟩ ρ ⟨h1, h2, h3, h4⟩
 simp only [cA, nA]
 dsimp only at h1 h2 h3 h4 ⊢
 refine J.sr <| JL.rd (Rd.lss (t0 rfl) (t2 rfl)) <| JL.ns <| J.condD (t0 rfl) ?_ ?_
 intro hc1
 obtain ⟨q, hq⟩ : ∃ q, l[x]? = some q := ⟨_, List.getElem?_eq_getElem (by omega)⟩
 have hqo := hok q (List.mem_of_getElem? hq)
 unfold kdOk at hqo
 have hdr := sufI_step hq z
 have hdl := congrArg List.length hdr
 rw [hdr]
 have e0 : (be4 q.2 ++ restI l z x q).length = (be4 q.2).length + (restI l z x q).length := List.length_append
 have e0b := be4_length q.2
 refine J.skip <| At.next <| J.seq <| J.block <| J.sr <| JL.mv (t1 rfl) <| JL.as (t0 rfl) <| JL.n4 <| JL.mv (t8 rfl) <| JL.ef (Ef.call (.cons (t0 rfl) (.cons Ev.c .nil)) (number_any p b k m 4 (be4 q.2) (restI l z x q) rfl (by omega) (by omega) (by omega) (by omega)) (by repeat constructor) ?_)
 rintro - -
 rw [beV_4 (by omega)]
 simp only [cA, nA]
 refine JL.rd (Rd.buildS (.cons (t0 rfl) .nil) bld_91 (by repeat (first | exact FillN.nil | apply FillN.one rfl rfl (by repeat constructor)))) ?_
 refine JL.ef (Ef.alloc Tryz.zeroValue91 rfl ?_)
 intro b2
 refine JL.ef0 (Ef.stB Tryz.sizeOf91 (t0 rfl) (t1 rfl) (by repeat constructor) (by repeat constructor) (by first | rfl | assumption | simp_all) (by first | rfl | assumption | simp_all) (by first | exact bv_one _ | exact cons_one rfl (bv_one _) | (simp [Value.oneCell']; done) | (simp [Value.oneCell', str]; done)) (by decide) ?_)
 refine JL.n5 <| JL.mv (t4 rfl) <| JL.rd (Rd.gtr (t0 rfl) Ev.c) <| JL.n2 <| J.condD (t0 rfl) ?_ ?_
 intro hc3
 have hx0 : 0 < x := by omega
 rw [restI_pos hx0]
 have e1 : ([UInt8.ofNat q.1.length] ++ (q.1 ++ (sufI l (x + 1) ++ z))).length = 1 + (q.1 ++ (sufI l (x + 1) ++ z)).length := List.length_append
 have e2 : (q.1 ++ (sufI l (x + 1) ++ z)).length = q.1.length + (sufI l (x + 1) ++ z).length := List.length_append
 rw [restI_pos hx0] at hdr e0
 have hdl := congrArg List.length hdr
 have hpv : ∀ h : 1 < x, ((l.take x).map kdc)[((x : Int) - 1).toNat]? = some [str (l.getD (x - 1) ([], 0)).1, .int .i64 ((l.getD (x - 1) ([], 0)).2 : Int)] := fun h => by
   rw [show ((x : Int) - 1).toNat = x - 1 by omega, List.getElem?_map, List.getElem?_take_of_lt (by omega), b1s_at2 (by omega)]; rfl
 have hlt : ∀ h : 1 < x, slt (l.getD (x - 1) ([], 0)).1 q.1 = true := fun h => hs (x - 1) x _ _ (by omega) (by omega) (b1s_at2 (by omega)) hq
 have hqne := hne x q hx0 hq
 refine J.region <| JL.mv (t14 rfl) <| JL.mv (t15 rfl) <| JL.ef (Ef.call (.cons (t0 rfl) (.cons Ev.c .nil)) (number_any p (subA b 1 4 m) (k - 4) (m - 4) 1 [UInt8.ofNat q.1.length] (q.1 ++ (sufI l (x + 1) ++ z)) rfl (by omega) (by omega) (by omega) (by omega)) (by repeat constructor) ?_)
 rintro - -
 rw [beV_1 (by omega)]
 simp only [cA, nA]
 refine JL.ef (Ef.call (.cons (t2 rfl) (.cons (t0 rfl) .nil)) (take_any p (subA (subA b 1 4 m) 1 1 (m - 4)) (k - 4 - 1) (m - 4 - 1) q.1.length q.1 (sufI l (x + 1) ++ z) rfl (by omega) (by omega) (by omega)) (by repeat constructor) ?_)
 rintro - -
 simp only [cA, nA]
 refine JL.rd (Rd.byStr Tryz.underlying122 Tryz.underlying5 Tryz.underlying9 (t0 rfl) (Src.i (by repeat constructor)) (by first | (simp; done) | (simp; omega) | omega | (simp [*]; done) | (simp [*]; omega))) ?_
 refine JL.rd ((by first | exact Rd.fld0 fld_91_0 (t7 rfl) | exact Rd.fldz fld_91_0 (t7 rfl))) ?_
 refine JL.ef0 (Ef.st Tryz.sizeOf9 (t0 rfl) (t1 rfl) rfl (by repeat constructor) (by repeat constructor) (by repeat constructor) (by first | rfl | simp) ?_)
 refine JL.ns <| J.seq <| J.draw [lz, lz, lz, lz, lz, lz, lz, lz, lz, lz, lz, lz, lz, lz, lz, lz, lz, lz, lz, lz, lz, lz, lz, lz, lz, lz, lz, lz, lz] [] mixed rfl <| DRun.end [] [0, 1, 2, 3, 4, 5, 6, 7, 8, 9, 10, 11, 12, 13, 14, 15, 16, 17, 18, 19, 20, 21, 22, 23, 24, 25, 26, 27, 28] rfl rfl ?_ ?_
 exact .nil
 refine DNew.rd rfl (Rd.move (t20 rfl)) <| DNew.rd rfl (Rd.nil (t0 rfl)) <| DNew.rd rfl ((by first | exact Rd.fld0 fld_152_1 (t0 rfl) | exact Rd.fld fld_152_1 (t0 rfl))) ?_
 refine DNew.rd rfl (Rd.ldN Tryz.isAgg4 (t0 rfl) (by repeat constructor) (by repeat constructor)) ?_
 refine DNew.rd rfl (Rd.not (EvB (t0 rfl) rfl)) <| DNew.rd rfl (Rd.move (t0 rfl)) <| DNew.rdG rfl rfl (EvB (t0 rfl) rfl) rfl (Rd.move (t18 rfl)) <| DNew.rdG rfl rfl (EvB (t1 rfl) rfl) rfl (Rd.gtr (t0 rfl) Ev.c) <| DNew.rdG rfl rfl (EvB (t2 rfl) rfl) rfl (Rd.move (t0 rfl)) <| DNew.rdG rfl rfl (EvB (t0 rfl) (decide_eq_true (by omega))) rfl ((by first | exact Rd.fld0 fld_91_0 (t17 rfl) | exact Rd.fldz fld_91_0 (t17 rfl))) ?_
 refine DNew.rdG rfl rfl (EvB (t1 rfl) (decide_eq_true (by omega))) rfl (Rd.ldN Tryz.isAgg9 (t0 rfl) (by repeat constructor) (by repeat constructor)) ?_
 refine DNew.rdG rfl rfl (EvB (t2 rfl) (decide_eq_true (by omega))) rfl (Rd.str_eql (t0 rfl) Ev.c) ?_
 refine DNew.rdG rfl rfl (EvB (t6 rfl) rfl) rfl (Rd.pickT (EvB (t3 rfl) (decide_eq_true (by omega))) (t0 rfl)) ?_
 refine DNew.rd rfl (Rd.pickF (EvB (t7 rfl) rfl) (t0 rfl)) <| DNew.rd rfl (Rd.move (t0 rfl)) <| DNew.rdG rfl rfl (EvB (t0 rfl) (decide_eq_false hqne)) rfl (Rd.move (t27 rfl)) <| DNew.rdG rfl rfl (EvB (t1 rfl) (decide_eq_false hqne)) rfl (Rd.gtr (t0 rfl) Ev.c) <| DNew.rdG rfl rfl (EvB (t2 rfl) (decide_eq_false hqne)) rfl (Rd.move (t0 rfl)) <| DNew.caseD (t0 rfl) ?_ ?_
 intro hb4p hb4
 refine DNew.rdG rfl rfl (EvB (t0 rfl) hb4) rfl (Rd.move (t34 rfl)) <| DNew.rdG rfl rfl (EvB (t1 rfl) hb4) rfl (Rd.move (t31 rfl)) <| DNew.rdG rfl rfl (EvB (t2 rfl) hb4) rfl (Rd.sub (t0 rfl) Ev.c (w64 (by omega) (by omega))) ?_
 refine DNew.rdG rfl rfl (EvB (t3 rfl) hb4) rfl (Rd.sIdx Tryz.runUnderlying89 Tryz.sizeOf91 (t2 rfl) (t0 rfl) (Src.i (by repeat constructor)) (by first | (simp; done) | (simp; omega) | omega | (simp [*]; done) | (simp [*]; omega)) (by omega) (by omega)) ?_
 refine DNew.rdG rfl rfl (EvB (t4 rfl) hb4) rfl (Rd.sFld0 fld_91_0 (t0 rfl) (Src.i (by repeat constructor)) (List.getElem?_eq_some_iff.1 (hpv (by omega))).1) ?_
 refine DNew.rdG rfl rfl (EvB (t5 rfl) hb4) rfl (Rd.sLd Tryz.isAgg9 (t0 rfl) (Src.i (by repeat constructor)) (hpv (by omega)) rfl) ?_
 refine DNew.rdG rfl rfl (EvB (t6 rfl) hb4) rfl ((by first | exact Rd.fld0 fld_91_0 (t32 rfl) | exact Rd.fldz fld_91_0 (t32 rfl))) ?_
 refine DNew.rdG rfl rfl (EvB (t7 rfl) hb4) rfl (Rd.ldN Tryz.isAgg9 (t0 rfl) (by repeat constructor) (by repeat constructor)) ?_
 refine DNew.rdG rfl rfl (EvB (t8 rfl) hb4) rfl (Rd.str_geq (t2 rfl) (t0 rfl)) <| DNew.rdG rfl rfl (EvB (t12 rfl) (decide_eq_false hqne)) rfl (Rd.pickT (EvB (t9 rfl) hb4) (t0 rfl)) <| DNew.rd rfl (Rd.pickF (EvB (t13 rfl) (decide_eq_false hqne)) (t0 rfl)) <| DNew.n2 <| J.condF (EvB (t0 rfl) (by rw [hlt (by omega)]; rfl)) ?_
 refine J.skip <| At.next <| J.live (K := [(8, _), (10, _), (6, _), (9, _), (5, _), (4, _), (0, _)]) ⟨(lk37 rfl), (lk44 rfl), (lk45 rfl), (lk46 rfl), (lk47 rfl), (lk48 rfl), (lk49 rfl), trivial⟩ ?_
 intro ρ5
 refine J.region <| JL.mv (t2 rfl) <| JL.rd (Rd.ldB Tryz.isAgg91 Tryz.sizeOf91 (t1 rfl) (by repeat constructor) (by first | rfl | assumption | simp_all)) ?_
 refine JL.ef (Ef.slit1 elt_89 (t0 rfl) rfl rfl (by decide) ?_)
 intro b6
 refine JL.ef (Ef.appS elt_89 (t2 rfl) (t0 rfl) (by repeat constructor) (Src.i (by repeat constructor)) (by first | (simp; done) | (simp; omega) | omega | (simp [*]; done) | (simp [*]; omega)) (by first | (simp; done) | (simp; omega) | omega | (simp [*]; done) | (simp [*]; omega)) (by simp [Value.oneCell', str]) (by first | omega | (simp; omega)) (by first | (simp only [maxLen]; omega) | (simp [maxLen]; omega)) ?_)
 intro a7 c8
 refine JL.as (t0 rfl) <| JL.nil <| At.blkN <| At.next <| J.region <| JL.rd (Rd.add (t6 rfl) Ev.c (w64 (by omega) (by omega))) ?_
 refine JL.mv (t0 rfl) <| JL.nil ?_
 first | rw [show (l.take x).map kdc ++ [[str q.1, .int .i64 (q.2 : Int)]] = (l.take (x + 1)).map kdc by rw [take_step hq]; simp [kdc]] | rw [show (l.take 0).map kdc ++ [[Value.string ⟨#[]⟩, .int .i64 (q.2 : Int)]] = (l.take (0 + 1)).map kdc by rw [take_step hq]; simp [kdc, hq00, str]] | rw [show (l.take 0).map kdc ++ [[str [], .int .i64 (q.2 : Int)]] = (l.take (0 + 1)).map kdc by rw [take_step hq]; simp [kdc, hq00]]
 refine At.again ((x + 1, ((subA (subA (subA b 1 4 m) 1 1 (m - 4)) 1 q.1.length (m - 4 - 1)), k - 4 - 1 - q.1.length, m - 4 - 1 - q.1.length), (a7, c8))) ?_ ?_ ⟨lk0.trans (by first | with_reducible rfl | (congr 1; omega) | (simp; done) | (simp [*]; done)), (lk2 rfl).trans (by first | with_reducible rfl | (congr 1; omega) | (simp; done) | (simp [*]; done)), trivial⟩ ⟨(lk10 rfl), (lk11 rfl), (lk12 rfl), (lk13 rfl), trivial⟩ (fun _ => Stars.sel (by repeat constructor))
 first | exact ⟨by show x + 1 ≤ l.length; omega, by show k - 4 - 1 - q.1.length = (sufI l (x + 1) ++ z).length; omega, by show k - 4 - 1 - q.1.length ≤ m - 4 - 1 - q.1.length; omega, by show k - 4 - 1 - q.1.length ≤ _; omega⟩ | exact ⟨by show 0 + 1 ≤ l.length; omega, by show k - 4 = (sufI l (0 + 1) ++ z).length; omega, by show k - 4 ≤ m - 4; omega, by show k - 4 ≤ _; omega⟩
 first | (show l.length - (x + 1) < l.length - x; omega) | (show l.length - (0 + 1) < l.length - 0; omega)
 intro hb4p hb4
 refine DNew.skG rfl rfl (EvB (t0 rfl) hb4) rfl <| DNew.skG rfl rfl (EvB (t1 rfl) hb4) rfl <| DNew.skG rfl rfl (EvB (t2 rfl) hb4) rfl <| DNew.skG rfl rfl (EvB (t3 rfl) hb4) rfl <| DNew.skG rfl rfl (EvB (t4 rfl) hb4) rfl <| DNew.skG rfl rfl (EvB (t5 rfl) hb4) rfl <| DNew.skG rfl rfl (EvB (t6 rfl) hb4) rfl <| DNew.skG rfl rfl (EvB (t7 rfl) hb4) rfl <| DNew.skG rfl rfl (EvB (t8 rfl) hb4) rfl <| DNew.rdG rfl rfl (EvB (t12 rfl) (decide_eq_false hqne)) rfl (Rd.pickF (EvB (t9 rfl) hb4) Ev.c) <| DNew.rd rfl (Rd.pickF (EvB (t13 rfl) (decide_eq_false hqne)) (t0 rfl)) <| DNew.n2 <| J.condF (t0 rfl) <| J.skip <| At.next <| J.live (K := [(8, _), (10, _), (6, _), (9, _), (5, _), (4, _), (0, _)]) ⟨(lk37 rfl), (lk44 rfl), (lk45 rfl), (lk46 rfl), (lk47 rfl), (lk48 rfl), (lk49 rfl), trivial⟩ ?_
 intro ρ9
 refine J.region <| JL.mv (t2 rfl) <| JL.rd (Rd.ldB Tryz.isAgg91 Tryz.sizeOf91 (t1 rfl) (by repeat constructor) (by first | rfl | assumption | simp_all)) ?_
 refine JL.ef (Ef.slit1 elt_89 (t0 rfl) rfl rfl (by decide) ?_)
 intro b10
 refine JL.ef (Ef.appS elt_89 (t2 rfl) (t0 rfl) (by repeat constructor) (Src.i (by repeat constructor)) (by first | (simp; done) | (simp; omega) | omega | (simp [*]; done) | (simp [*]; omega)) (by first | (simp; done) | (simp; omega) | omega | (simp [*]; done) | (simp [*]; omega)) (by simp [Value.oneCell', str]) (by first | omega | (simp; omega)) (by first | (simp only [maxLen]; omega) | (simp [maxLen]; omega)) ?_)
 intro a11 c12
 refine JL.as (t0 rfl) <| JL.nil <| At.blkN <| At.next <| J.region <| JL.rd (Rd.add (t6 rfl) Ev.c (w64 (by omega) (by omega))) ?_
 refine JL.mv (t0 rfl) <| JL.nil ?_
 first | rw [show (l.take x).map kdc ++ [[str q.1, .int .i64 (q.2 : Int)]] = (l.take (x + 1)).map kdc by rw [take_step hq]; simp [kdc]] | rw [show (l.take 0).map kdc ++ [[Value.string ⟨#[]⟩, .int .i64 (q.2 : Int)]] = (l.take (0 + 1)).map kdc by rw [take_step hq]; simp [kdc, hq00, str]] | rw [show (l.take 0).map kdc ++ [[str [], .int .i64 (q.2 : Int)]] = (l.take (0 + 1)).map kdc by rw [take_step hq]; simp [kdc, hq00]]
 refine At.again ((x + 1, ((subA (subA (subA b 1 4 m) 1 1 (m - 4)) 1 q.1.length (m - 4 - 1)), k - 4 - 1 - q.1.length, m - 4 - 1 - q.1.length), (a11, c12))) ?_ ?_ ⟨lk0.trans (by first | with_reducible rfl | (congr 1; omega) | (simp; done) | (simp [*]; done)), (lk2 rfl).trans (by first | with_reducible rfl | (congr 1; omega) | (simp; done) | (simp [*]; done)), trivial⟩ ⟨(lk10 rfl), (lk11 rfl), (lk12 rfl), (lk13 rfl), trivial⟩ (fun _ => Stars.sel (by repeat constructor))
 first | exact ⟨by show x + 1 ≤ l.length; omega, by show k - 4 - 1 - q.1.length = (sufI l (x + 1) ++ z).length; omega, by show k - 4 - 1 - q.1.length ≤ m - 4 - 1 - q.1.length; omega, by show k - 4 - 1 - q.1.length ≤ _; omega⟩ | exact ⟨by show 0 + 1 ≤ l.length; omega, by show k - 4 = (sufI l (0 + 1) ++ z).length; omega, by show k - 4 ≤ m - 4; omega, by show k - 4 ≤ _; omega⟩
 first | (show l.length - (x + 1) < l.length - x; omega) | (show l.length - (0 + 1) < l.length - 0; omega)
 intro hc3
 obtain rfl : x = 0 := by omega
 rw [restI_zero]
 rw [restI_zero] at hdr e0
 have hdl := congrArg List.length hdr
 have hq00 := hq0 q hq
 refine J.skip <| At.next <| J.seq <| J.seq <| J.draw [lz, lz, lz, lz, lz, lz, lz, lz, lz, lz, lz, lz, lz, lz, lz, lz, lz, lz, lz, lz, lz, lz, lz, lz, lz, lz, lz, lz, lz] [] mixed rfl <| DRun.end [] [0, 1, 2, 3, 4, 5, 6, 7, 8, 9, 10, 11, 12, 13, 14, 15, 16, 17, 18, 19, 20, 21, 22, 23, 24, 25, 26, 27, 28] rfl rfl ?_ ?_
 exact .nil
 refine DNew.rd rfl (Rd.move (t14 rfl)) <| DNew.rd rfl (Rd.nil (t0 rfl)) <| DNew.rd rfl ((by first | exact Rd.fld0 fld_152_1 (t0 rfl) | exact Rd.fld fld_152_1 (t0 rfl))) ?_
 refine DNew.rd rfl (Rd.ldN Tryz.isAgg4 (t0 rfl) (by repeat constructor) (by repeat constructor)) ?_
 refine DNew.rd rfl (Rd.not (EvB (t0 rfl) rfl)) <| DNew.rd rfl (Rd.move (t0 rfl)) <| DNew.rdG rfl rfl (EvB (t0 rfl) rfl) rfl (Rd.move (t12 rfl)) <| DNew.rdG rfl rfl (EvB (t1 rfl) rfl) rfl (Rd.gtr (t0 rfl) Ev.c) <| DNew.rdG rfl rfl (EvB (t2 rfl) rfl) rfl (Rd.move (t0 rfl)) <| DNew.skG rfl rfl (EvB (t0 rfl) (decide_eq_false (by omega))) rfl ?_
 refine DNew.skG rfl rfl (EvB (t1 rfl) (decide_eq_false (by omega))) rfl ?_
 refine DNew.skG rfl rfl (EvB (t2 rfl) (decide_eq_false (by omega))) rfl ?_
 refine DNew.rdG rfl rfl (EvB (t6 rfl) rfl) rfl (Rd.pickF (EvB (t3 rfl) (decide_eq_false (by omega))) Ev.c) ?_
 refine DNew.rd rfl (Rd.pickF (EvB (t7 rfl) rfl) (t0 rfl)) <| DNew.rd rfl (Rd.move (t0 rfl)) <| DNew.rdG rfl rfl (t0 rfl) rfl (Rd.move (t21 rfl)) <| DNew.rdG rfl rfl (t1 rfl) rfl (Rd.gtr (t0 rfl) Ev.c) <| DNew.rdG rfl rfl (t2 rfl) rfl (Rd.move (t0 rfl)) <| DNew.skG rfl rfl (EvB (t0 rfl) (decide_eq_false (by omega))) rfl ?_
 refine DNew.skG rfl rfl (EvB (t1 rfl) (decide_eq_false (by omega))) rfl ?_
 refine DNew.skG rfl rfl (EvB (t2 rfl) (decide_eq_false (by omega))) rfl ?_
 refine DNew.skG rfl rfl (EvB (t3 rfl) (decide_eq_false (by omega))) rfl ?_
 refine DNew.skG rfl rfl (EvB (t4 rfl) (decide_eq_false (by omega))) rfl ?_
 refine DNew.skG rfl rfl (EvB (t5 rfl) (decide_eq_false (by omega))) rfl ?_
 refine DNew.skG rfl rfl (EvB (t6 rfl) (decide_eq_false (by omega))) rfl ?_
 refine DNew.skG rfl rfl (EvB (t7 rfl) (decide_eq_false (by omega))) rfl ?_
 refine DNew.skG rfl rfl (EvB (t8 rfl) (decide_eq_false (by omega))) rfl ?_
 refine DNew.rdG rfl rfl (t12 rfl) rfl (Rd.pickF (EvB (t9 rfl) (decide_eq_false (by omega))) Ev.c) ?_
 refine DNew.rd rfl (Rd.pickF (t13 rfl) (t0 rfl)) <| DNew.n2 <| J.condF (t0 rfl) <| J.skip <| At.next <| J.live (K := [(8, _), (10, _), (6, _), (9, _), (5, _), (4, _), (0, _)]) ⟨(lk31 rfl), (lk38 rfl), (lk39 rfl), (lk40 rfl), (lk41 rfl), (lk42 rfl), (lk43 rfl), trivial⟩ ?_
 intro ρ13
 refine J.region <| JL.mv (t2 rfl) <| JL.rd (Rd.ldB Tryz.isAgg91 Tryz.sizeOf91 (t1 rfl) (by repeat constructor) (by first | rfl | assumption | simp_all)) ?_
 refine JL.ef (Ef.slit1 elt_89 (t0 rfl) rfl rfl (by decide) ?_)
 intro b14
 refine JL.ef (Ef.appS elt_89 (t2 rfl) (t0 rfl) (by repeat constructor) (Src.i (by repeat constructor)) (by first | (simp; done) | (simp; omega) | omega | (simp [*]; done) | (simp [*]; omega)) (by first | (simp; done) | (simp; omega) | omega | (simp [*]; done) | (simp [*]; omega)) (by simp [Value.oneCell']) (by first | omega | (simp; omega)) (by first | (simp only [maxLen]; omega) | (simp [maxLen]; omega)) ?_)
 intro a15 c16
 refine JL.as (t0 rfl) <| JL.nil <| At.blkN <| At.next <| J.region <| JL.rd (Rd.add (t6 rfl) Ev.c (w64 (by omega) (by omega))) ?_
 refine JL.mv (t0 rfl) <| JL.nil ?_
 first | rw [show (l.take x).map kdc ++ [[str q.1, .int .i64 (q.2 : Int)]] = (l.take (x + 1)).map kdc by rw [take_step hq]; simp [kdc]] | rw [show (l.take 0).map kdc ++ [[Value.string ⟨#[]⟩, .int .i64 (q.2 : Int)]] = (l.take (0 + 1)).map kdc by rw [take_step hq]; simp [kdc, hq00, str]] | rw [show (l.take 0).map kdc ++ [[str [], .int .i64 (q.2 : Int)]] = (l.take (0 + 1)).map kdc by rw [take_step hq]; simp [kdc, hq00]]
 refine At.again ((0 + 1, ((subA b 1 4 m), k - 4, m - 4), (a15, c16))) ?_ ?_ ⟨lk0.trans (by first | with_reducible rfl | (congr 1; omega) | (simp; done) | (simp [*]; done)), (lk2 rfl).trans (by first | with_reducible rfl | (congr 1; omega) | (simp; done) | (simp [*]; done)), trivial⟩ ⟨(lk10 rfl), (lk11 rfl), (lk12 rfl), (lk13 rfl), trivial⟩ (fun _ => Stars.sel (by repeat constructor))
 first | exact ⟨by show x + 1 ≤ l.length; omega, by show k - 4 - 1 - q.1.length = (sufI l (x + 1) ++ z).length; omega, by show k - 4 - 1 - q.1.length ≤ m - 4 - 1 - q.1.length; omega, by show k - 4 - 1 - q.1.length ≤ _; omega⟩ | exact ⟨by show 0 + 1 ≤ l.length; omega, by show k - 4 = (sufI l (0 + 1) ++ z).length; omega, by show k - 4 ≤ m - 4; omega, by show k - 4 ≤ _; omega⟩
 first | (show l.length - (x + 1) < l.length - x; omega) | (show l.length - (0 + 1) < l.length - 0; omega)
 intro hc1
 obtain rfl : x = l.length := by omega
 rw [List.take_length]
 refine J.know (fun h s => row_cap (Stars.sel (pre := [row ra rc 91 2 (l.map kdc)]) (by repeat constructor) s)) ?_
 intro hcap
 refine J.exit <| At.nextX <| At.loopX <| At.blkX <| At.next <| J.seq <| J.sr <| JL.mv (t2 rfl) <| JL.rd (Rd.len Tryz.runUnderlying89 (t0 rfl)) <| JL.rd (Rd.lss (t0 rfl) Ev.c) <| JL.n2 <| J.condD (t0 rfl) ?_ ?_
 intro hc17
 omega
 intro hc17
 refine J.k4 <| JL.mv (t5 rfl) <| JL.rd (Rd.iface (t0 rfl) Tryz.runUnderlying89 (fun _ h => by cases h)) <| JL.as (t0 rfl) <| JL.as Ev.c <| JL.nr <| At.demote (by repeat constructor) ?_
 exact At.r ((ra, rc)) (by simpa using hcap) (ResV.two rfl (t1 rfl) (t0 rfl)) rfl
theorem le4_get (s : UInt32) {x : Nat} (h : x < 4) : (le4 s).getD x 0 = UInt8.ofNat (s.toNat / 2 ^ (8 * x)) := getD_of (by simp [le4, h])
theorem app_getD {l m : Bs} {i : Nat} (h : l.length = 508) : (l ++ m).getD ((508 : Int) + (i : Int)).toNat 0 = m.getD i 0 := by
  rw [show ((508 : Int) + (i : Int)).toNat = 508 + i by omega, List.getD_eq_getElem?_getD, List.getElem?_append_right (by omega), ← List.getD_eq_getElem?_getD]
  congr 1
  omega
theorem pre_split (n : Nd) (m : Bs) : ndPre n ++ m = n.kind :: UInt8.ofNat (n.count / 256) :: UInt8.ofNat n.count :: (n.body ++ (List.replicate (505 - n.body.length) 0 ++ m)) := by
  simp [ndPre, be2]
theorem pre_drop (n : Nd) (m : Bs) (h : n.body.length ≤ 505) : ((b1s (ndPre n ++ m)).drop 3).take 505 = b1s (n.body ++ List.replicate (505 - n.body.length) 0) := by
  rw [pre_split]
  show ((b1s (n.body ++ (List.replicate (505 - n.body.length) 0 ++ m)))).take 505 = _
  rw [← List.append_assoc, ← b1s_append, List.take_left']
  rw [b1s_length, List.length_append, List.length_replicate]
  omega
theorem count_eq {n : Nd} {m : Bs} (h : n.count < 65536) : ((ndPre n ++ m).getD (1 : Int).toNat 0).toNat * 256 + ((ndPre n ++ m).getD (2 : Int).toNat 0).toNat = n.count := by
  rw [pre_split]
  show (UInt8.ofNat (n.count / 256)).toNat * 256 + (UInt8.ofNat n.count).toNat = n.count
  rw [UInt8.toNat_ofNat', UInt8.toNat_ofNat']
  omega
theorem kind_eq (n : Nd) (m : Bs) : (ndPre n ++ m).getD (0 : Int).toNat 0 = n.kind := by
  rw [pre_split]; rfl
theorem sum_of {s : Bs} (h : s.length = 512) (hx : ∀ i, i < 4 → s.getD (508 + i) 0 = UInt8.ofNat ((crcB (s.take 508)).toNat / 2 ^ (8 * i))) : sumOk s := by
  unfold sumOk
  apply List.ext_getElem?
  intro i
  by_cases hi : i < 4
  · have h1 := hx i hi
    rw [List.getElem?_drop, b1s_at (l := s) (by omega), h1]
    simp [le4, hi]
  · rw [List.getElem?_eq_none (by rw [List.length_drop]; omega), List.getElem?_eq_none (by rw [le4_length]; omega)]

set_option maxHeartbeats 400000 in
theorem ldec_ok (a : Option Addr) (c : Nat) (l : List It) (hc : 512 ≤ c) (hcl : c ≤ 1048576) (hfit : (Nd.body (.leaf l)).length ≤ 505) (hcnt : l.length < 65536) (hl0 : l ≠ []) (hok : ∀ q ∈ l, itOk q) (hs : sorted l) :
    Fn Tryz.prog 59 [.slice a 512 c] [rowR a 1 (b1s ((ndPre (.leaf l)) ++ le4 (crcB (ndPre (.leaf l)))))] (X := Option Addr × Nat) (fun x => l.length ≤ x.2) (fun x => .tuple #[.iface 85 (.slice x.1 l.length x.2), .int .i64 0]) (fun x => [rowR x.1 2 (l.map itc)]) := by
 refine Fn.mk' (n := 57) (l := [(0, .slice a 512 c)]) (fn := Tryz.f59) Tryz.func59 (by kernel_rfl) rfl rfl (by simp) rfl ?_
 intro h0 w0
 have hpl : (ndPre (.leaf l)).length = 508 := ndPre_length (n := (.leaf l)) hfit
 have hsl : ((ndPre (.leaf l)) ++ le4 (crcB (ndPre (.leaf l)))).length = 512 := by rw [List.length_append, hpl, le4_length]
 have hcn := count_eq (n := (.leaf l)) (m := le4 (crcB (ndPre (.leaf l)))) hcnt
 have hk0 := kind_eq (.leaf l) (le4 (crcB (ndPre (.leaf l))))
 have hdp := pre_drop (.leaf l) (le4 (crcB (ndPre (.leaf l)))) hfit
 have hg1 := (((ndPre (.leaf l)) ++ le4 (crcB (ndPre (.leaf l)))).getD (1 : Int).toNat 0).toNat_lt
 have hg2 := (((ndPre (.leaf l)) ++ le4 (crcB (ndPre (.leaf l)))).getD (2 : Int).toNat 0).toNat_lt
 refine J.sr <| JL.as Ev.c <| JL.as Ev.c <| JL.n4 <| JL.mv (t2 rfl) <| JL.rd (Rd.slToN (j := 508) Tryz.runUnderlying122 Tryz.sizeOf5 (t0 rfl) Ev.c (by omega)) ?_
 refine JL.ef (Ef.call (.cons (t0 rfl) .nil) (crc_any a 508 c (ndPre (.leaf l)) hpl (by decide) (rowR a 1 (b1s ((ndPre (.leaf l)) ++ le4 (crcB (ndPre (.leaf l)))))) (fun t => SIn.pre (SIn.rowR t))) (by repeat constructor) ?_)
 rintro - -
 simp only [cA, nA]
 refine JL.as (t0 rfl) <| JL.n5 <| JL.mv Ev.c <| JL.nb <| J.loop (X := Nat) (fun (x : Nat) => [(11, .int .i64 (x : Int))]) (K := [(4, _), (3, _), (2, _), (0, _)]) (fun x => [rowR a 1 (b1s ((ndPre (.leaf l)) ++ le4 (crcB (ndPre (.leaf l)))))]) (fun x => x ≤ 4) (fun x => 4 - x) (0) ?_ ⟨lk0.trans (by first | with_reducible rfl | (congr 1; omega) | (simp; done) | (simp [*]; done)), trivial⟩ ⟨(lk1 rfl), (lk5 rfl), (lk6 rfl), (lk7 rfl), trivial⟩ (fun _ => Stars.sel (by repeat constructor)) ?_
 exact Nat.zero_le _
 intro x ρ hp
 simp only [cA, nA]
 refine J.sr <| JL.rd (Rd.lss (t0 rfl) Ev.c) <| JL.ns <| J.condD (t0 rfl) ?_ ?_
 intro hc1
 refine J.skip <| At.next <| J.seq <| J.block <| J.sr <| JL.mv (t1 rfl) <| JL.as (t0 rfl) <| JL.ns ?_
 have hby : (((((ndPre (.leaf l)) ++ le4 (crcB (ndPre (.leaf l)))).getD ((508 : Int) + (x : Int)).toNat 0).toNat : Nat) : Int) = ((UInt8.ofNat ((crcB (ndPre (.leaf l))).toNat / 2 ^ (8 * x))).toNat : Int) := by rw [app_getD hpl, le4_get _ (by omega)]
 refine J.draw [lz, lz, lz, lz, lz, lz, lz, lz, lz, lz, lz] [] mixed rfl <| DRun.end [] [0, 1, 2, 3, 4, 5, 6, 7, 8, 9, 10] rfl rfl ?_ ?_
 exact .nil
 refine DNew.rd rfl (Rd.move (t7 rfl)) <| DNew.rd rfl (Rd.move (t1 rfl)) <| DNew.rd rfl (Rd.add Ev.c (t0 rfl) (w64 (by omega) (by omega))) ?_
 refine DNew.rd rfl (Rd.byIdx Tryz.runUnderlying122 Tryz.sizeOf5 (t2 rfl) (t0 rfl) (Src.i (by repeat constructor)) (by first | (simp; done) | (simp; omega) | omega | (simp [*]; done) | (simp [*]; omega)) (by omega) (by omega)) ?_
 refine DNew.rd rfl (Rd.byLd Tryz.isAgg5 (t0 rfl) (Src.i (by repeat constructor)) (by first | (simp; done) | (simp; omega) | omega | (simp [*]; done) | (simp [*]; omega))) ?_
 refine DNew.rd rfl (Rd.move (t9 rfl)) <| DNew.rd rfl (Rd.move (t6 rfl)) <| DNew.rd rfl (Rd.mul Ev.c (t0 rfl) (w64 (by omega) (by omega))) ?_
 refine DNew.rd rfl (Rd.shrN (a := (crcB (ndPre (.leaf l))).toNat) (n := 8 * x) (t2 rfl) (t0 rfl) (by show 8 * x ≤ 32; omega)) ?_
 refine DNew.rd rfl (Rd.conv8 (t0 rfl) (fun w => ⟨_, Tryz.runUnderlying148 w⟩) Tryz.runUnderlying5) <| DNew.rd rfl (Rd.neq (t5 rfl) (t0 rfl)) <| DNew.n2 <| J.condF (EvB (t0 rfl) (decide_eq_false (fun h => h hby))) <| J.skip <| At.blkN <| At.next <| J.region <| JL.rd (Rd.add (t14 rfl) Ev.c (w64 (by omega) (by omega))) ?_
 refine JL.mv (t0 rfl) <| JL.nil <| At.again (x + 1) ?_ ?_ ⟨lk0.trans (by first | with_reducible rfl | (congr 1; omega) | (simp; done) | (simp [*]; done)), trivial⟩ ⟨(lk17 rfl), (lk18 rfl), (lk19 rfl), (lk20 rfl), trivial⟩ (fun _ => Stars.sel (by repeat constructor))
 omega
 omega
 intro hc1
 refine J.exit <| At.nextX <| At.loopX <| At.blkX <| At.next <| J.sr <| JL.mv (t5 rfl) <| JL.rd (Rd.slMid (i := 3) (j := 508) Tryz.runUnderlying122 Tryz.sizeOf5 (t0 rfl) Ev.c Ev.c (by omega) (by omega)) ?_
 refine JL.rd (Rd.buildS (.cons (t0 rfl) (.cons Ev.c .nil)) bld_152 (by repeat (first | exact FillN.nil | apply FillN.one rfl rfl (by repeat constructor)))) ?_
 refine JL.ef (Ef.box (t0 rfl) rfl ?_)
 intro b2
 refine JL.as (t0 rfl) <| JL.ns <| J.draw [lz, lz, lz, lz, lz, lz, lz, lz, lz, lz, lz] [] mixed rfl <| DRun.end [] [0, 1, 2, 3, 4, 5, 6, 7, 8, 9, 10] rfl rfl ?_ ?_
 exact .nil
 refine DNew.rd rfl (Rd.move (t10 rfl)) <| DNew.rd rfl (Rd.byIdx Tryz.runUnderlying122 Tryz.sizeOf5 (t0 rfl) Ev.c (Src.i (by repeat constructor)) (by first | (simp; done) | (simp; omega) | omega | (simp [*]; done) | (simp [*]; omega)) (by omega) (by omega)) ?_
 refine DNew.rd rfl (Rd.byLd Tryz.isAgg5 (t0 rfl) (Src.i (by repeat constructor)) (by first | (simp; done) | (simp; omega) | omega | (simp [*]; done) | (simp [*]; omega))) ?_
 refine DNew.rd rfl (Rd.conv (t0 rfl) (fun w => ⟨_, Tryz.runUnderlying5 w⟩) Tryz.runUnderlying3 (w64 (by omega) (by omega))) ?_
 refine DNew.rd rfl (Rd.shl64 (n := 8) (t0 rfl) Ev.c (by decide) (by omega)) ?_
 refine DNew.rd rfl (Rd.move (t15 rfl)) <| DNew.rd rfl (Rd.byIdx Tryz.runUnderlying122 Tryz.sizeOf5 (t0 rfl) Ev.c (Src.i (by repeat constructor)) (by first | (simp; done) | (simp; omega) | omega | (simp [*]; done) | (simp [*]; omega)) (by omega) (by omega)) ?_
 refine DNew.rd rfl (Rd.byLd Tryz.isAgg5 (t0 rfl) (Src.i (by repeat constructor)) (by first | (simp; done) | (simp; omega) | omega | (simp [*]; done) | (simp [*]; omega))) ?_
 refine DNew.rd rfl (Rd.conv (t0 rfl) (fun w => ⟨_, Tryz.runUnderlying5 w⟩) Tryz.runUnderlying3 (w64 (by omega) (by omega))) ?_
 refine DNew.rd rfl (Rd.orB (t4 rfl) (t0 rfl) (by omega) (by omega)) ?_
 refine DNew.rd rfl (Rd.assign (t0 rfl)) <| DNew.n2 <| J.seq <| J.seq ?_
 rw [hcn]
 refine J.region <| JL.mv (t21 rfl) <| JL.rd (Rd.byIdx Tryz.runUnderlying122 Tryz.sizeOf5 (t0 rfl) Ev.c (Src.i (by repeat constructor)) (by first | (simp; done) | (simp; omega) | omega | (simp [*]; done) | (simp [*]; omega)) (by omega) (by omega)) ?_
 refine JL.rd (Rd.byLd Tryz.isAgg5 (t0 rfl) (Src.i (by repeat constructor)) (by first | (simp; done) | (simp; omega) | omega | (simp [*]; done) | (simp [*]; omega))) ?_
 refine JL.nb <| J.seq <| J.cut 3 505 c (show (b1s ((ndPre (.leaf l)) ++ le4 (crcB (ndPre (.leaf l))))).length ≤ c by rw [b1s_length, hsl]; exact hc) (by repeat constructor) ?_
 rw [hdp]
 refine J.region <| JL.rd (Rd.eql (t0 rfl) Ev.c) <| JL.as (t0 rfl) <| JL.n2 <| J.condT (EvB (t0 rfl) (decide_eq_true (by rw [hk0]; rfl))) ?_
 refine J.sr <| JL.mv (t16 rfl) <| JL.mv (t6 rfl) <| JL.ef (Ef.call (.cons (t1 rfl) (.cons (t0 rfl) .nil)) (leaves_any b2 (subA a 1 3 c) 505 (c - 3) l (List.replicate (505 - (Nd.body (.leaf l)).length) 0) (by have h9 : (leafB l).length = (Nd.body (.leaf l)).length := rfl; simp; omega) (by omega) (by omega) hl0 hok hs (by omega)) (by repeat constructor) ?_)
 rintro ⟨ra, rc⟩ hrc
 simp only [cA, nA]
 exact JL.e (t0 rfl) <| JL.e (t1 rfl) <| JL.as (t1 rfl) <| JL.as (t1 rfl) <| JL.nr <| At.blkR <| At.nextR <| At.r ((ra, rc)) (hrc) (ResV.two rfl (t1 rfl) (t0 rfl)) rfl

set_option maxHeartbeats 400000 in
theorem idec_ok (a : Option Addr) (c : Nat) (l : List Kd) (hc : 512 ≤ c) (hcl : c ≤ 1048576) (hfit : (Nd.body (.inner l)).length ≤ 505) (hcnt : l.length < 65536) (hl2 : 2 ≤ l.length) (hok : ∀ q ∈ l, kdOk q) (hq0 : ∀ q, l[0]? = some q → q.1 = []) (hne : ∀ i q, 0 < i → l[i]? = some q → q.1 ≠ []) (hs : ∀ i j q r, 0 < i → i < j → l[i]? = some q → l[j]? = some r → slt q.1 r.1 = true) :
    Fn Tryz.prog 59 [.slice a 512 c] [rowR a 1 (b1s ((ndPre (.inner l)) ++ le4 (crcB (ndPre (.inner l)))))] (X := Option Addr × Nat) (fun x => l.length ≤ x.2) (fun x => .tuple #[.iface 89 (.slice x.1 l.length x.2), .int .i64 0]) (fun x => [rowR x.1 2 (l.map kdc)]) := by
 refine Fn.mk' (n := 57) (l := [(0, .slice a 512 c)]) (fn := Tryz.f59) Tryz.func59 (by kernel_rfl) rfl rfl (by simp) rfl ?_
 intro h0 w0
 have hpl : (ndPre (.inner l)).length = 508 := ndPre_length (n := (.inner l)) hfit
 have hsl : ((ndPre (.inner l)) ++ le4 (crcB (ndPre (.inner l)))).length = 512 := by rw [List.length_append, hpl, le4_length]
 have hcn := count_eq (n := (.inner l)) (m := le4 (crcB (ndPre (.inner l)))) hcnt
 have hk0 := kind_eq (.inner l) (le4 (crcB (ndPre (.inner l))))
 have hdp := pre_drop (.inner l) (le4 (crcB (ndPre (.inner l)))) hfit
 have hg1 := (((ndPre (.inner l)) ++ le4 (crcB (ndPre (.inner l)))).getD (1 : Int).toNat 0).toNat_lt
 have hg2 := (((ndPre (.inner l)) ++ le4 (crcB (ndPre (.inner l)))).getD (2 : Int).toNat 0).toNat_lt
 refine J.sr <| JL.as Ev.c <| JL.as Ev.c <| JL.n4 <| JL.mv (t2 rfl) <| JL.rd (Rd.slToN (j := 508) Tryz.runUnderlying122 Tryz.sizeOf5 (t0 rfl) Ev.c (by omega)) ?_
 refine JL.ef (Ef.call (.cons (t0 rfl) .nil) (crc_any a 508 c (ndPre (.inner l)) hpl (by decide) (rowR a 1 (b1s ((ndPre (.inner l)) ++ le4 (crcB (ndPre (.inner l)))))) (fun t => SIn.pre (SIn.rowR t))) (by repeat constructor) ?_)
 rintro - -
 simp only [cA, nA]
 refine JL.as (t0 rfl) <| JL.n5 <| JL.mv Ev.c <| JL.nb <| J.loop (X := Nat) (fun (x : Nat) => [(11, .int .i64 (x : Int))]) (K := [(4, _), (3, _), (2, _), (0, _)]) (fun x => [rowR a 1 (b1s ((ndPre (.inner l)) ++ le4 (crcB (ndPre (.inner l)))))]) (fun x => x ≤ 4) (fun x => 4 - x) (0) ?_ ⟨lk0.trans (by first | with_reducible rfl | (congr 1; omega) | (simp; done) | (simp [*]; done)), trivial⟩ ⟨(lk1 rfl), (lk5 rfl), (lk6 rfl), (lk7 rfl), trivial⟩ (fun _ => Stars.sel (by repeat constructor)) ?_
 exact Nat.zero_le _
 intro x ρ hp
 simp only [cA, nA]
 refine J.sr <| JL.rd (Rd.lss (t0 rfl) Ev.c) <| JL.ns <| J.condD (t0 rfl) ?_ ?_
 intro hc1
 refine J.skip <| At.next <| J.seq <| J.block <| J.sr <| JL.mv (t1 rfl) <| JL.as (t0 rfl) <| JL.ns ?_
 have hby : (((((ndPre (.inner l)) ++ le4 (crcB (ndPre (.inner l)))).getD ((508 : Int) + (x : Int)).toNat 0).toNat : Nat) : Int) = ((UInt8.ofNat ((crcB (ndPre (.inner l))).toNat / 2 ^ (8 * x))).toNat : Int) := by rw [app_getD hpl, le4_get _ (by omega)]
 refine J.draw [lz, lz, lz, lz, lz, lz, lz, lz, lz, lz, lz] [] mixed rfl <| DRun.end [] [0, 1, 2, 3, 4, 5, 6, 7, 8, 9, 10] rfl rfl ?_ ?_
 exact .nil
 refine DNew.rd rfl (Rd.move (t7 rfl)) <| DNew.rd rfl (Rd.move (t1 rfl)) <| DNew.rd rfl (Rd.add Ev.c (t0 rfl) (w64 (by omega) (by omega))) ?_
 refine DNew.rd rfl (Rd.byIdx Tryz.runUnderlying122 Tryz.sizeOf5 (t2 rfl) (t0 rfl) (Src.i (by repeat constructor)) (by first | (simp; done) | (simp; omega) | omega | (simp [*]; done) | (simp [*]; omega)) (by omega) (by omega)) ?_
 refine DNew.rd rfl (Rd.byLd Tryz.isAgg5 (t0 rfl) (Src.i (by repeat constructor)) (by first | (simp; done) | (simp; omega) | omega | (simp [*]; done) | (simp [*]; omega))) ?_
 refine DNew.rd rfl (Rd.move (t9 rfl)) <| DNew.rd rfl (Rd.move (t6 rfl)) <| DNew.rd rfl (Rd.mul Ev.c (t0 rfl) (w64 (by omega) (by omega))) ?_
 refine DNew.rd rfl (Rd.shrN (a := (crcB (ndPre (.inner l))).toNat) (n := 8 * x) (t2 rfl) (t0 rfl) (by show 8 * x ≤ 32; omega)) ?_
 refine DNew.rd rfl (Rd.conv8 (t0 rfl) (fun w => ⟨_, Tryz.runUnderlying148 w⟩) Tryz.runUnderlying5) <| DNew.rd rfl (Rd.neq (t5 rfl) (t0 rfl)) <| DNew.n2 <| J.condF (EvB (t0 rfl) (decide_eq_false (fun h => h hby))) <| J.skip <| At.blkN <| At.next <| J.region <| JL.rd (Rd.add (t14 rfl) Ev.c (w64 (by omega) (by omega))) ?_
 refine JL.mv (t0 rfl) <| JL.nil <| At.again (x + 1) ?_ ?_ ⟨lk0.trans (by first | with_reducible rfl | (congr 1; omega) | (simp; done) | (simp [*]; done)), trivial⟩ ⟨(lk17 rfl), (lk18 rfl), (lk19 rfl), (lk20 rfl), trivial⟩ (fun _ => Stars.sel (by repeat constructor))
 omega
 omega
 intro hc1
 refine J.exit <| At.nextX <| At.loopX <| At.blkX <| At.next <| J.sr <| JL.mv (t5 rfl) <| JL.rd (Rd.slMid (i := 3) (j := 508) Tryz.runUnderlying122 Tryz.sizeOf5 (t0 rfl) Ev.c Ev.c (by omega) (by omega)) ?_
 refine JL.rd (Rd.buildS (.cons (t0 rfl) (.cons Ev.c .nil)) bld_152 (by repeat (first | exact FillN.nil | apply FillN.one rfl rfl (by repeat constructor)))) ?_
 refine JL.ef (Ef.box (t0 rfl) rfl ?_)
 intro b2
 refine JL.as (t0 rfl) <| JL.ns <| J.draw [lz, lz, lz, lz, lz, lz, lz, lz, lz, lz, lz] [] mixed rfl <| DRun.end [] [0, 1, 2, 3, 4, 5, 6, 7, 8, 9, 10] rfl rfl ?_ ?_
 exact .nil
 refine DNew.rd rfl (Rd.move (t10 rfl)) <| DNew.rd rfl (Rd.byIdx Tryz.runUnderlying122 Tryz.sizeOf5 (t0 rfl) Ev.c (Src.i (by repeat constructor)) (by first | (simp; done) | (simp; omega) | omega | (simp [*]; done) | (simp [*]; omega)) (by omega) (by omega)) ?_
 refine DNew.rd rfl (Rd.byLd Tryz.isAgg5 (t0 rfl) (Src.i (by repeat constructor)) (by first | (simp; done) | (simp; omega) | omega | (simp [*]; done) | (simp [*]; omega))) ?_
 refine DNew.rd rfl (Rd.conv (t0 rfl) (fun w => ⟨_, Tryz.runUnderlying5 w⟩) Tryz.runUnderlying3 (w64 (by omega) (by omega))) ?_
 refine DNew.rd rfl (Rd.shl64 (n := 8) (t0 rfl) Ev.c (by decide) (by omega)) ?_
 refine DNew.rd rfl (Rd.move (t15 rfl)) <| DNew.rd rfl (Rd.byIdx Tryz.runUnderlying122 Tryz.sizeOf5 (t0 rfl) Ev.c (Src.i (by repeat constructor)) (by first | (simp; done) | (simp; omega) | omega | (simp [*]; done) | (simp [*]; omega)) (by omega) (by omega)) ?_
 refine DNew.rd rfl (Rd.byLd Tryz.isAgg5 (t0 rfl) (Src.i (by repeat constructor)) (by first | (simp; done) | (simp; omega) | omega | (simp [*]; done) | (simp [*]; omega))) ?_
 refine DNew.rd rfl (Rd.conv (t0 rfl) (fun w => ⟨_, Tryz.runUnderlying5 w⟩) Tryz.runUnderlying3 (w64 (by omega) (by omega))) ?_
 refine DNew.rd rfl (Rd.orB (t4 rfl) (t0 rfl) (by omega) (by omega)) ?_
 refine DNew.rd rfl (Rd.assign (t0 rfl)) <| DNew.n2 <| J.seq <| J.seq ?_
 rw [hcn]
 refine J.region <| JL.mv (t21 rfl) <| JL.rd (Rd.byIdx Tryz.runUnderlying122 Tryz.sizeOf5 (t0 rfl) Ev.c (Src.i (by repeat constructor)) (by first | (simp; done) | (simp; omega) | omega | (simp [*]; done) | (simp [*]; omega)) (by omega) (by omega)) ?_
 refine JL.rd (Rd.byLd Tryz.isAgg5 (t0 rfl) (Src.i (by repeat constructor)) (by first | (simp; done) | (simp; omega) | omega | (simp [*]; done) | (simp [*]; omega))) ?_
 refine JL.nb <| J.seq <| J.cut 3 505 c (show (b1s ((ndPre (.inner l)) ++ le4 (crcB (ndPre (.inner l))))).length ≤ c by rw [b1s_length, hsl]; exact hc) (by repeat constructor) ?_
 rw [hdp]
 refine J.region <| JL.rd (Rd.eql (t0 rfl) Ev.c) <| JL.as (t0 rfl) <| JL.n2 <| J.condF (EvB (t0 rfl) (decide_eq_false (by rw [hk0]; show ¬ ((2 : Int) = 1); decide))) ?_
 refine J.sr <| JL.rd (Rd.eql (t2 rfl) Ev.c) <| JL.as (t0 rfl) <| JL.n2 <| J.condT (EvB (t0 rfl) (decide_eq_true (by rw [hk0]; rfl))) ?_
 refine J.seq <| J.live (K := [(7, _), (6, _), (3, _), (2, _)]) ⟨(lk7 rfl), (lk18 rfl), (lk26 rfl), (lk27 rfl), trivial⟩ ?_
 intro ρ3
 refine J.region <| JL.mv (t1 rfl) <| JL.mv (t1 rfl) <| JL.ef (Ef.call (.cons (t1 rfl) (.cons (t0 rfl) .nil)) (inners_any b2 (subA a 1 3 c) 505 (c - 3) l (List.replicate (505 - (Nd.body (.inner l)).length) 0) (by have h9 : (innerB l).length = (Nd.body (.inner l)).length := rfl; simp; omega) (by omega) (by omega) hl2 hok hq0 hne hs (by omega)) (by repeat constructor) ?_)
 rintro ⟨ra, rc⟩ hrc
 simp only [cA, nA]
 exact JL.e (t0 rfl) <| JL.e (t1 rfl) <| JL.as (t1 rfl) <| JL.as (t1 rfl) <| JL.nr <| At.blkR <| At.nextR <| At.r ((ra, rc)) (hrc) (ResV.two rfl (t1 rfl) (t0 rfl)) rfl

set_option maxHeartbeats 400000 in
theorem dec_bad (a : Option Addr) (c : Nat) (s : Bs) (hc : 512 ≤ c) (hcl : c ≤ 1048576) (hsl : s.length = 512) (hbad : ¬ sumOk s) :
    Fn Tryz.prog 59 [.slice a 512 c] [rowR a 1 (b1s s)] (X := Unit) (fun _ => True) (fun _ => .tuple #[.nilIface, .int .i64 27]) (fun _ => []) := by
 refine Fn.mk' (n := 57) (l := [(0, .slice a 512 c)]) (fn := Tryz.f59) Tryz.func59 (by kernel_rfl) rfl rfl (by simp) rfl ?_
 intro h0 w0
 refine J.sr <| JL.as Ev.c <| JL.as Ev.c <| JL.n4 <| JL.mv (t2 rfl) <| JL.rd (Rd.slToN (j := 508) Tryz.runUnderlying122 Tryz.sizeOf5 (t0 rfl) Ev.c (by omega)) ?_
 refine JL.ef (Ef.call (.cons (t0 rfl) .nil) (crc_any a 508 c (s.take 508) (by simp [hsl]) (by decide) (rowR a 1 (b1s s)) (fun t => SIn.pre (m := s.drop 508) (by rw [List.take_append_drop]; exact SIn.rowR t))) (by repeat constructor) ?_)
 rintro - -
 simp only [cA, nA]
 refine JL.as (t0 rfl) <| JL.n5 <| JL.mv Ev.c <| JL.nb <| J.loop (X := Nat) (fun (x : Nat) => [(11, .int .i64 (x : Int))]) (K := [(4, _), (3, _), (2, _), (0, _)]) (fun x => [rowR a 1 (b1s s)]) (fun x => x ≤ 4 ∧ ∀ i, i < x → s.getD (508 + i) 0 = UInt8.ofNat ((crcB (s.take 508)).toNat / 2 ^ (8 * i))) (fun x => 4 - x) (0) ?_ ⟨lk0.trans (by first | with_reducible rfl | (congr 1; omega) | (simp; done) | (simp [*]; done)), trivial⟩ ⟨(lk1 rfl), (lk5 rfl), (lk6 rfl), (lk7 rfl), trivial⟩ (fun _ => Stars.sel (by repeat constructor)) ?_
 exact ⟨Nat.zero_le _, fun i h => absurd h (Nat.not_lt_zero _)⟩
 rintro x ρ ⟨hk, hall⟩
 simp only [cA, nA]
 refine J.sr <| JL.rd (Rd.lss (t0 rfl) Ev.c) <| JL.ns <| J.condD (t0 rfl) ?_ ?_
 intro hc1
 refine J.skip <| At.next <| J.seq <| J.block <| J.sr <| JL.mv (t1 rfl) <| JL.as (t0 rfl) <| JL.ns <| J.draw [lz, lz, lz, lz, lz, lz, lz, lz, lz, lz, lz] [] mixed rfl <| DRun.end [] [0, 1, 2, 3, 4, 5, 6, 7, 8, 9, 10] rfl rfl ?_ ?_
 exact .nil
 refine DNew.rd rfl (Rd.move (t7 rfl)) <| DNew.rd rfl (Rd.move (t1 rfl)) <| DNew.rd rfl (Rd.add Ev.c (t0 rfl) (w64 (by omega) (by omega))) ?_
 refine DNew.rd rfl (Rd.byIdx Tryz.runUnderlying122 Tryz.sizeOf5 (t2 rfl) (t0 rfl) (Src.i (by repeat constructor)) (by first | (simp; done) | (simp; omega) | omega | (simp [*]; done) | (simp [*]; omega)) (by omega) (by omega)) ?_
 refine DNew.rd rfl (Rd.byLd Tryz.isAgg5 (t0 rfl) (Src.i (by repeat constructor)) (by first | (simp; done) | (simp; omega) | omega | (simp [*]; done) | (simp [*]; omega))) ?_
 refine DNew.rd rfl (Rd.move (t9 rfl)) <| DNew.rd rfl (Rd.move (t6 rfl)) <| DNew.rd rfl (Rd.mul Ev.c (t0 rfl) (w64 (by omega) (by omega))) ?_
 refine DNew.rd rfl (Rd.shrN (a := (crcB (s.take 508)).toNat) (n := 8 * x) (t2 rfl) (t0 rfl) (by show 8 * x ≤ 32; omega)) ?_
 refine DNew.rd rfl (Rd.conv8 (t0 rfl) (fun w => ⟨_, Tryz.runUnderlying148 w⟩) Tryz.runUnderlying5) <| DNew.rd rfl (Rd.neq (t5 rfl) (t0 rfl)) <| DNew.n2 <| J.condD (t0 rfl) ?_ ?_
 intro hc2
 exact J.sr <| JL.as Ev.c <| JL.as Ev.c <| JL.nr <| At.blkR <| At.nextR <| At.loopR <| At.blkR <| At.nextR <| At.r (()) (trivial) (ResV.two rfl (t1 rfl) (t0 rfl)) rfl
 intro hc2
 have heq : s.getD (508 + x) 0 = UInt8.ofNat ((crcB (s.take 508)).toNat / 2 ^ (8 * x)) := by
   have h1 : ((s.getD ((508 : Int) + (x : Int)).toNat 0).toNat : Int) = ((UInt8.ofNat ((crcB (s.take 508)).toNat / 2 ^ (8 * x))).toNat : Int) := by simpa using hc2
   rw [show ((508 : Int) + (x : Int)).toNat = 508 + x by omega] at h1
   exact UInt8.toNat_inj.1 (Int.ofNat.inj h1)
 refine J.skip <| At.blkN <| At.next <| J.region <| JL.rd (Rd.add (t14 rfl) Ev.c (w64 (by omega) (by omega))) ?_
 refine JL.mv (t0 rfl) <| JL.nil <| At.again (x + 1) ?_ ?_ ⟨lk0.trans (by first | with_reducible rfl | (congr 1; omega) | (simp; done) | (simp [*]; done)), trivial⟩ ⟨(lk17 rfl), (lk18 rfl), (lk19 rfl), (lk20 rfl), trivial⟩ (fun _ => Stars.sel (by repeat constructor))
 exact ⟨by omega, fun i hi => (by by_cases e : i = x; (rw [e]; exact heq); exact hall i (by omega))⟩
 omega
 intro hc1
 exact absurd (sum_of hsl (fun i hi => hall i (by omega))) hbad
end Go.Proofs.YtbhladkbnleeoaaGreat

namespace Go.Proofs.YtbhladkbnleeoaaGreat

/-- An iterator's contract, when it reads pk, which lies with what the rounds keep. -/
def IterQ (P : Program) (gf : FuncId) (cap : List Value) (own pk : List Assn) (xs : List (List Value)) (own' : List Assn) : Prop :=
  ∀ (l : Nat) (J Jx : Nat → List Assn) (F : Nat → List Assn), (∀ k h, Stars (J k) h ↔ Stars (pk ++ F k) h) → (∀ k x, xs[k]? = some x → Yields P l x (J k) (J (k + 1)) (Jx k)) →
    Fn P gf (.func (.yield l) #[] #[] :: cap) (own ++ J 0) (X := Option Nat) (fun z => ∀ k, z = some k → k < xs.length) (fun _ => .tuple #[])
      (fun z => match z with | none => own' ++ J xs.length | some k => own' ++ Jx k)

/-- THE RULE. I k: between two rounds, k of them being over; Ix k c: round k has left by the jump c. -/
theorem J.rangeFuncQ {P : Program} {n : Nat} {ds : List Deferred} {h0 : Frag} {w0 : World} {Q : Exit → Act → World → Prop} {ρ : Env} {hs rest : List Assn} {f : Operand} {ps : List Tmp} {assign body : Code} {gf : FuncId} {cap : List Value}
    {own own' pk : List Assn} {F : Nat → List Assn} {xs : List (List Value)} (I : Nat → List Assn) (Ix : Nat → Code → List Assn)
    (hf : Ev n ρ f (.func (.func gf) #[] cap.toArray)) (it : IterQ P gf cap own pk xs own') (he : Ent P gf) (sel : Sel own hs rest) (hps : ∀ x ∈ xs, x.length = ps.length) (h0I : ∀ h, Stars rest h → Stars (I 0) h) (hpk : ∀ k h, Stars (I k) h ↔ Stars (pk ++ F k) h)
    (round : ∀ l r0 fn k x h0 w0, xs[k]? = some x → J P ⟨n, some l, [], h0, w0⟩ assign
      (AsgQ P l body (RndQ P l h0 w0 (pts l (lrec fn (act n ds ρ).tmps ps assign body r0 .ready none) :: I (k + 1)) [exL fun c => pts l (lrec fn (act n ds ρ).tmps ps assign body r0 .done (some c)) :: Ix k c]))
      (setp (ps.zip x) ρ) (pts l (lrec fn (act n ds ρ).tmps ps assign body r0 .ready none) :: I k))
    (done : ∀ r0, At ⟨n, none, markOf r0 :: ds, h0, w0⟩ Q .normal ρ (pts r0 (.deferred (some [])) :: (own' ++ I xs.length)))
    (stop : ∀ r0 k c, k < xs.length → J P ⟨n, none, markOf r0 :: ds, h0, w0⟩ c Q ρ (pts r0 (.deferred (some [])) :: (own' ++ Ix k c))) :
    J P ⟨n, none, ds, h0, w0⟩ (.rangeFunc f ps.toArray assign body) Q ρ hs := by
  intro w hi
  refine wpIn_rangeFunc fun fn _ => ?_
  have hi1 := hi.alloc (.deferred (some []))
  have hs1 : (w.alloc (.deferred (some []))).heap.size = w.heap.size + 1 := by simp
  have hi2 := hi1.alloc (lrec fn (act n ds ρ).tmps ps assign body w.heap.size .ready none)
  rw [hs1] at hi2
  generalize hw2 : (w.alloc (.deferred (some []))).alloc (lrec fn (act n ds ρ).tmps ps assign body w.heap.size .ready none) = w2 at hi2
  have henter : (Instr.enterLoop fn (act n ds ρ).tmps ps.toArray assign body none).run P w = .ok (w.heap.size + 1, [markOf w.heap.size]) w2 := by
    rw [← hw2]
    have e : ∀ (o : Obj) (w : World), (newObj o).run P w = .ok w.heap.size (w.alloc o) := fun _ _ => rfl
    simp only [Instr.enterLoop, Sem.run_bind, Sem.run_pure, e, Result.andThen, hs1]
    rfl
  have hev := hf ds
  refine ⟨w.heap.size + 1, [markOf w.heap.size], w2, { target := .fn (.func gf) cap.toArray, args := #[.func (.yield (w.heap.size + 1)) #[] #[]] }, w2, gf, (.func (.yield (w.heap.size + 1)) #[] #[] :: cap).toArray, w2, henter, ?_, fun _ _ => trivial, ?_, fun hd => by simp [wideR] at hd, ?_⟩
  · show (resolve (act n ds ρ).eval (rangeCall f (w.heap.size + 1)) 0).run P w2 = _
    simp only [resolve, hev, Deferred.ofValue]
    simp [Act.eval]
  · show (callFunc gf (#[.func (.yield (w.heap.size + 1)) #[] #[]] ++ cap.toArray)).run P w2 = _
    rw [run_callFunc he]
    simp
  · rw [callsIn_wideR]
    have hy := it (w.heap.size + 1) (fun k => pts (w.heap.size + 1) (lrec fn (act n ds ρ).tmps ps assign body w.heap.size .ready none) :: I k)
      (fun k => [exL fun c => pts (w.heap.size + 1) (lrec fn (act n ds ρ).tmps ps assign body w.heap.size .done (some c)) :: Ix k c])
      (fun k => pts (w.heap.size + 1) (lrec fn (act n ds ρ).tmps ps assign body w.heap.size .ready none) :: F k)
      (fun k h => ⟨fun s => by
        have s1 : Stars ([pts (w.heap.size + 1) (lrec fn (act n ds ρ).tmps ps assign body w.heap.size .ready none)] ++ I k) h := s
        exact Stars.perm List.perm_middle.symm (Stars.app_right (fun h s => (hpk k h).1 s) s1), fun s => by
        have s1 : Stars ([pts (w.heap.size + 1) (lrec fn (act n ds ρ).tmps ps assign body w.heap.size .ready none)] ++ (pk ++ F k)) h := by
          refine Stars.perm ?_ s
          rw [List.singleton_append]
          exact List.perm_middle
        exact Stars.app_right (m := [pts (w.heap.size + 1) (lrec fn (act n ds ρ).tmps ps assign body w.heap.size .ready none)]) (fun h s => (hpk k h).2 s) s1⟩) (by
        intro k x hx w3 h3 s3 b3
        have hg : w3.heap[w.heap.size + 1]? = some (lrec fn (act n ds ρ).tmps ps assign body w.heap.size .ready none) := Blk.get .own s3 b3
        have hlen : x.length = ps.length := hps x (List.mem_of_getElem? hx)
        refine ⟨fn, (act n ds (setp (ps.zip x) ρ)).tmps, assign, body, ?_, ?_⟩
        · unfold Instr.yield
          simp only [Sem.run_bind, run_getLoop hg, Result.andThen]
          have h1 : x.toArray.size = ps.toArray.size := by simpa using hlen
          rw [if_neg (by simpa using h1)]
          rw [← setp_tmps]
          have hz : ps.toArray.zip x.toArray = (ps.zip x).toArray := by simp
          rw [hz]
          simp [Sem.run_pure]
        · have hj := round (w.heap.size + 1) w.heap.size fn k x h3 w3 hx w3 (Inv.start _ s3 b3)
          exact roundIn_of_wpIn trivial hj)
    have hsel : Inv h0 w0 ((own ++ (pts (w.heap.size + 1) (lrec fn (act n ds ρ).tmps ps assign body w.heap.size .ready none) :: I 0)) ++ [pts w.heap.size (.deferred (some []))]) w2 := by
      refine Inv.mono hi2 fun h st => ?_
      have p1 : (pts (w.heap.size + 1) (lrec fn (act n ds ρ).tmps ps assign body w.heap.size .ready none) :: pts w.heap.size (.deferred (some [])) :: hs).Perm
          ((pts (w.heap.size + 1) (lrec fn (act n ds ρ).tmps ps assign body w.heap.size .ready none) :: pts w.heap.size (.deferred (some [])) :: own) ++ rest) :=
        List.Perm.cons _ (List.Perm.cons _ sel.perm)
      have st2 := Stars.app_right h0I (Stars.perm p1 st)
      refine Stars.perm ?_ st2
      rw [List.cons_append, List.cons_append, List.append_assoc, List.cons_append]
      refine List.Perm.trans ?_ List.perm_middle.symm
      refine List.Perm.cons _ ?_
      rw [← List.append_assoc]
      exact (List.perm_append_singleton _ _).symm
    obtain ⟨h1, s1, b1, fr⟩ := Inv.split hsel
    refine (hy.calls w2 h1 s1 b1).mono ?_
    rintro e w3 ⟨z, h', hz, rfl, s', b', f'⟩
    cases z with
    | none =>
      have hi3 := fr h' w3 _ s' b' f'
      have hbl : Blk (w.heap.size + 1) (lrec fn (act n ds ρ).tmps ps assign body w.heap.size .ready none) (pts (w.heap.size + 1) (lrec fn (act n ds ρ).tmps ps assign body w.heap.size .ready none) :: (own' ++ I xs.length ++ [pts w.heap.size (.deferred (some []))])) := .own
      have hi4 : Inv h0 w0 (pts (w.heap.size + 1) (lrec fn (act n ds ρ).tmps ps assign body w.heap.size .ready none) :: (own' ++ I xs.length ++ [pts w.heap.size (.deferred (some []))])) w3 := by
        refine Inv.perm ?_ hi3
        show ((own' ++ (pts (w.heap.size + 1) (lrec fn (act n ds ρ).tmps ps assign body w.heap.size .ready none) :: I xs.length)) ++ [pts w.heap.size (.deferred (some []))]).Perm _
        rw [List.append_assoc, List.cons_append, List.append_assoc]
        exact List.perm_middle
      have hg := hbl.inv hi4
      refine ⟨none, setBlk w3 (w.heap.size + 1) (lrec fn (act n ds ρ).tmps ps assign body w.heap.size .exhausted none), ?_, ?_⟩
      · unfold Instr.endLoop
        simp only [Sem.run_bind, run_getLoop hg, Result.andThen]
        rw [if_neg (by decide)]
        simp only [Sem.run_bind, run_setLoop hg, Result.andThen, Sem.run_pure]
        rfl
      · refine done w.heap.size _ ?_
        have hi5 := hi4.upd (o' := lrec fn (act n ds ρ).tmps ps assign body w.heap.size .exhausted none) .here
        exact (hi5.mono fun h st => st.tail).perm (List.perm_append_singleton _ _)
    | some k =>
      have hi3 := fr h' w3 _ s' b' f'
      have hi3' : Inv h0 w0 (exL (fun c => pts (w.heap.size + 1) (lrec fn (act n ds ρ).tmps ps assign body w.heap.size .done (some c)) :: Ix k c) :: (own' ++ [pts w.heap.size (.deferred (some []))])) w3 := by
        refine Inv.perm ?_ hi3
        show ((own' ++ [exL fun c => pts (w.heap.size + 1) (lrec fn (act n ds ρ).tmps ps assign body w.heap.size .done (some c)) :: Ix k c]) ++ [pts w.heap.size (.deferred (some []))]).Perm _
        rw [List.append_assoc]
        exact List.perm_middle
      obtain ⟨c, hi4⟩ := Inv.openE hi3'
      rw [List.cons_append] at hi4
      have hg := Blk.inv .own hi4
      refine ⟨some c, setBlk w3 (w.heap.size + 1) (lrec fn (act n ds ρ).tmps ps assign body w.heap.size .exhausted (some c)), ?_, ?_⟩
      · unfold Instr.endLoop
        simp only [Sem.run_bind, run_getLoop hg, Result.andThen]
        rw [if_neg (by decide)]
        simp only [Sem.run_bind, run_setLoop hg, Result.andThen, Sem.run_pure]
        rfl
      · refine stop w.heap.size k c (hz k rfl) _ ?_
        have hi5 := hi4.upd (o' := lrec fn (act n ds ρ).tmps ps assign body w.heap.size .exhausted (some c)) .here
        refine (hi5.mono fun h st => st.tail).perm ?_
        rw [← List.append_assoc]
        refine List.Perm.trans (List.perm_append_singleton _ _) (List.Perm.cons _ List.perm_append_comm)

theorem IterQ.of {P : Program} {gf : FuncId} {cap : List Value} {own own' pk : List Assn} {xs : List (List Value)} {n : Nat} (hn : xs.length = n)
    (f : ∀ (l : Nat) (J Jx : Nat → Assn) (F : Nat → List Assn), (∀ k h, J k h ↔ Stars (pk ++ F k) h) → (∀ k x, xs[k]? = some x → Yields P l x [J k] [J (k + 1)] [Jx k]) →
      Fn P gf (.func (.yield l) #[] #[] :: cap) (own ++ [J 0]) (X := Option Nat) (fun z => ∀ k, z = some k → k < n) (fun _ => .tuple #[])
      (fun z => own' ++ [match z with | none => J n | some k => Jx k])) : IterQ P gf cap own pk xs own' := by
  subst hn
  intro l J Jx F hpk hy
  have g := f l (fun k => Stars (J k)) (fun k => Stars (Jx k)) F hpk (fun k x hx w h s b => by
    have s' : Stars (J k) h := Stars.wrap (m := []).1 s
    obtain ⟨fn, tmps, asn, bo, hr, hR⟩ := hy k x hx w h s' b
    refine ⟨fn, tmps, asn, bo, hr, hR.mono ?_⟩
    rintro e w' ⟨c, h', rfl, t, d, e⟩
    refine ⟨c, h', rfl, ?_, d, e⟩
    cases c
    · exact Stars.wrap (m := []).2 t
    · exact Stars.wrap (m := []).2 t)
  refine ⟨g.ent, fun w h s b => (g.calls w h (Stars.wrap.2 s) b).mono ?_⟩
  rintro e w' ⟨z, h', hz, rfl, t, d, e⟩
  refine ⟨z, h', hz, rfl, ?_, d, e⟩
  cases z
  · exact Stars.wrap.1 t
  · exact Stars.wrap.1 t

theorem Yields.pre {P : Program} {l : Nat} {x : List Value} {pre pre' postT postF : List Assn} (h : Yields P l x pre postT postF) (f : ∀ h, Stars pre' h → Stars pre h) : Yields P l x pre' postT postF := fun w g s b => h w g (f g s) b
theorem J.openQ {P : Program} {C : Cx} {Q : Exit → Act → World → Prop} {ρ : Env} {c : Code} {A F G : Assn} {hs h1 : List Assn} (e : ∀ h, G h ↔ Stars ([A] ++ [F]) h) (t1 : Take G hs h1) (k : J P C c Q ρ (A :: F :: h1)) : J P C c Q ρ hs :=
  J.weak (fun h s => by
    obtain ⟨g1, g2, a, b, c, rfl⟩ := Stars.perm t1.perm s
    have s2 : Stars ([A, F] ++ h1) (jn g1 g2) := Stars.append.2 ⟨g1, g2, (e g1).1 a, b, c, rfl⟩
    exact s2) k
/-- The numbers below k that are picked. -/
def selL (p : Nat → Bool) (k : Nat) : List Nat := (List.range k).filter p
theorem selL_succ (p : Nat → Bool) (k : Nat) : selL p (k + 1) = selL p k ++ if p k = true then [k] else [] := by
  unfold selL
  rw [List.range_succ, List.filter_append]
  congr 1
  by_cases h : p k = true <;> simp [h]
theorem selL_hit {p : Nat → Bool} {k n : Nat} (hk : k < n) (h : p k = true) : (selL p n)[(selL p k).length]? = some k := by
  obtain ⟨m, rfl⟩ : ∃ m, n = k + 1 + m := ⟨n - (k + 1), by omega⟩
  induction m with
  | zero => rw [Nat.add_zero, selL_succ, if_pos h, List.getElem?_append_right (Nat.le_refl _), Nat.sub_self]; rfl
  | succ m ih =>
    have ih := ih (by omega)
    have hlt := (List.getElem?_eq_some_iff.1 ih).1
    rw [← Nat.add_assoc, selL_succ, List.getElem?_append_left hlt]
    exact ih
end Go.Proofs.YtbhladkbnleeoaaGreat

namespace Go.Proofs.YtbhladkbnleeoaaGreat
set_option maxRecDepth 100000
attribute [local irreducible] J JL At Rd Ef DNew DCar DRun Then RetQ LoopQ

/-- The block m is a range of blocks: the first one, and the states. -/
@[irreducible] def bm (m f : Nat) (s : Bs) : Assn := fun h => ∃ x : Option Addr × Nat, (f ≤ 1073741824 ∧ s.length ≤ 65536) ∧ Stars [pts m (.cells [.int .i64 (f : Int), .slice x.1 s.length x.2].toArray 124), bytesA x.1 x.2 s] h
theorem bm_open {m f : Nat} {s : Bs} (h : Frag) (a : bm m f s h) : ∃ x : Option Addr × Nat, (f ≤ 1073741824 ∧ s.length ≤ 65536) ∧ Stars [pts m (.cells [.int .i64 (f : Int), .slice x.1 s.length x.2].toArray 124), bytesA x.1 x.2 s] h := by
  unfold bm at a; exact a
theorem bm_shut {m f c : Nat} {a : Option Addr} {s : Bs} (hf : f ≤ 1073741824) (hs : s.length ≤ 65536) {l : List Assn} {h : Frag} (st : Stars (pts m (.cells [.int .i64 (f : Int), .slice a s.length c].toArray 124) :: bytesA a c s :: l) h) : Stars (bm m f s :: l) h :=
  Stars.shut (A := bm m f s) (L := [pts m (.cells [Value.int .i64 (f : Int), .slice a s.length c].toArray 124), bytesA a c s]) (fun h t => by unfold bm; exact ⟨(a, c), ⟨hf, hs⟩, t⟩) st

set_option maxHeartbeats 400000 in
theorem has_any (m f : Nat) (s : Bs) (i : Int) (hi : -9223372036854775808 ≤ i) (hi2 : i ≤ 9223372036854775807) :
    Fn Tryz.prog 87 [.pointer (some ⟨m, 0, none⟩), .int .i64 i] [bm m f s] (X := Unit) (fun _ => True) (fun _ => .bool (decide ((f : Int) ≤ i ∧ i - f < s.length))) (fun _ => [bm m f s]) := by
 refine Fn.mk' (n := 25) (l := [(0, .pointer (some ⟨m, 0, none⟩)), (1, .int .i64 i)]) (fn := Tryz.f87) Tryz.func87 (by kernel_rfl) rfl rfl (by simp) rfl ?_
 intro h0 w0
 refine J.openT (by repeat constructor) bm_open ?_
 rintro ⟨a, c⟩ ⟨hfm, hsm⟩
 dsimp only
 simp only [cA, nA]
 refine J.sr <| JL.as Ev.c <| JL.ns <| J.draw [lz, lz, lz, lz, lz, lz, lz, lz, lz, lz, lz, lz, lz, lz, lz, lz, lz, lz, lz, lz, lz] [] mixed rfl <| DRun.end [] [0, 1, 2, 3, 4, 5, 6, 7, 8, 9, 10, 11, 12, 13, 14, 15, 16, 17, 18, 19, 20] rfl rfl ?_ ?_
 exact .nil
 refine DNew.rd rfl (Rd.move (t2 rfl)) <| DNew.rd rfl (Rd.move (t2 rfl)) <| DNew.rd rfl (Rd.nil (t0 rfl)) <| DNew.rd rfl ((by first | exact Rd.fld0 fld_124_0 (t0 rfl) | exact Rd.fldz fld_124_0 (t0 rfl))) ?_
 refine DNew.rd rfl (Rd.ldN Tryz.isAgg3 (t0 rfl) (by repeat constructor) (by repeat constructor)) ?_
 refine DNew.rd rfl (Rd.geq (t4 rfl) (t0 rfl)) <| DNew.rd rfl (Rd.move (t0 rfl)) <| DNew.caseD (t0 rfl) ?_ ?_
 intro hb1p hb1
 refine DNew.rdG rfl rfl (EvB (t0 rfl) hb1) rfl (Rd.move (t9 rfl)) <| DNew.rdG rfl rfl (EvB (t1 rfl) hb1) rfl (Rd.move (t9 rfl)) <| DNew.rdG rfl rfl (EvB (t2 rfl) hb1) rfl (Rd.nil (t0 rfl)) <| DNew.rdG rfl rfl (EvB (t3 rfl) hb1) rfl ((by first | exact Rd.fld0 fld_124_0 (t0 rfl) | exact Rd.fldz fld_124_0 (t0 rfl))) ?_
 refine DNew.rdG rfl rfl (EvB (t4 rfl) hb1) rfl (Rd.ldN Tryz.isAgg3 (t0 rfl) (by repeat constructor) (by repeat constructor)) ?_
 refine DNew.rdG rfl rfl (EvB (t5 rfl) hb1) rfl (Rd.sub (t4 rfl) (t0 rfl) (w64 (by omega) (by omega))) ?_
 refine DNew.rdG rfl rfl (EvB (t6 rfl) hb1) rfl (Rd.move (t14 rfl)) <| DNew.rdG rfl rfl (EvB (t7 rfl) hb1) rfl (Rd.nil (t0 rfl)) <| DNew.rdG rfl rfl (EvB (t8 rfl) hb1) rfl ((by first | exact Rd.fld0 fld_124_1 (t0 rfl) | exact Rd.fld fld_124_1 (t0 rfl))) ?_
 refine DNew.rdG rfl rfl (EvB (t9 rfl) hb1) rfl (Rd.ldN Tryz.isAgg122 (t0 rfl) (by repeat constructor) (by repeat constructor)) ?_
 exact DNew.rdG rfl rfl (EvB (t10 rfl) hb1) rfl (Rd.len Tryz.runUnderlying122 (t0 rfl)) <| DNew.rdG rfl rfl (EvB (t11 rfl) hb1) rfl (Rd.lss (t5 rfl) (t0 rfl)) <| DNew.rd rfl (Rd.pickT (EvB (t12 rfl) hb1) (t0 rfl)) <| DNew.rd rfl (Rd.assign (t0 rfl)) <| DNew.n2 <| J.ret <| At.ret (()) (trivial) (ResV.one rfl (t0 rfl)) (by first | (simp [*]; done) | (simp; omega)) (fun _ st => bm_shut hfm hsm (Stars.sel (by repeat constructor) st))
 intro hb1p hb1
 exact DNew.skG rfl rfl (EvB (t0 rfl) hb1) rfl <| DNew.skG rfl rfl (EvB (t1 rfl) hb1) rfl <| DNew.skG rfl rfl (EvB (t2 rfl) hb1) rfl <| DNew.skG rfl rfl (EvB (t3 rfl) hb1) rfl <| DNew.skG rfl rfl (EvB (t4 rfl) hb1) rfl <| DNew.skG rfl rfl (EvB (t5 rfl) hb1) rfl <| DNew.skG rfl rfl (EvB (t6 rfl) hb1) rfl <| DNew.skG rfl rfl (EvB (t7 rfl) hb1) rfl <| DNew.skG rfl rfl (EvB (t8 rfl) hb1) rfl <| DNew.skG rfl rfl (EvB (t9 rfl) hb1) rfl <| DNew.skG rfl rfl (EvB (t10 rfl) hb1) rfl <| DNew.skG rfl rfl (EvB (t11 rfl) hb1) rfl <| DNew.rd rfl (Rd.pickF (EvB (t12 rfl) hb1) Ev.c) <| DNew.rd rfl (Rd.assign (t0 rfl)) <| DNew.n2 <| J.ret <| At.ret (()) (trivial) (ResV.one rfl (t0 rfl)) (by first | (simp [*]; done) | (simp; omega)) (fun _ st => bm_shut hfm hsm (Stars.sel (by repeat constructor) st))

set_option maxHeartbeats 400000 in
theorem count_m (m f : Nat) (s : Bs) :
    Fn Tryz.prog 56 [.pointer (some ⟨m, 0, none⟩)] [bm m f s] (X := Unit) (fun _ => True) (fun _ => .int .i64 (s.length : Int)) (fun _ => [bm m f s]) := by
 refine Fn.mk' (n := 10) (l := [(0, .pointer (some ⟨m, 0, none⟩))]) (fn := Tryz.f56) Tryz.func56 (by kernel_rfl) rfl rfl (by simp) rfl ?_
 intro h0 w0
 refine J.openT (by repeat constructor) bm_open ?_
 rintro ⟨a, c⟩ ⟨hfm, hsm⟩
 dsimp only
 simp only [cA, nA]
 refine J.sr <| JL.as Ev.c <| JL.n5 <| JL.mv (t1 rfl) <| JL.rd (Rd.eqlNil (t0 rfl) Tryz.runUnderlying25) <| JL.n2 <| J.condF (EvB (t0 rfl) rfl) <| J.k4 <| JL.mv (t3 rfl) <| JL.rd (Rd.nil (t0 rfl)) <| JL.rd ((by first | exact Rd.fld0 fld_124_1 (t0 rfl) | exact Rd.fld fld_124_1 (t0 rfl))) ?_
 refine JL.rd (Rd.ldN Tryz.isAgg122 (t0 rfl) (by repeat constructor) (by repeat constructor)) ?_
 exact JL.rd (Rd.len Tryz.runUnderlying122 (t0 rfl)) <| JL.as (t0 rfl) <| JL.nr <| At.ret (()) (trivial) (ResV.one rfl (t0 rfl)) rfl (fun _ st => bm_shut hfm hsm (Stars.sel (by repeat constructor) st))

/-- The state of a block, and the error. -/
def stC (f : Nat) (s : Bs) (i : Int) : Int := if ((f : Int) ≤ i ∧ i - f < s.length) then 0 else 2
def stV (f : Nat) (s : Bs) (i : Int) : Nat := if ((f : Int) ≤ i ∧ i - f < s.length) then (s.getD (i - f).toNat 0).toNat else 0
theorem stC_in {f : Nat} {s : Bs} {i : Int} (h : ((f : Int) ≤ i ∧ i - f < s.length)) : stC f s i = 0 ∧ stV f s i = (s.getD (i - f).toNat 0).toNat := ⟨if_pos h, if_pos h⟩
theorem stC_out {f : Nat} {s : Bs} {i : Int} (h : ¬ ((f : Int) ≤ i ∧ i - f < s.length)) : stC f s i = 2 ∧ stV f s i = 0 := ⟨if_neg h, if_neg h⟩

set_option maxHeartbeats 400000 in
theorem state_any (m f : Nat) (s : Bs) (i : Int) (hi : -9223372036854775808 ≤ i) (hi2 : i ≤ 9223372036854775807) :
    Fn Tryz.prog 68 [.pointer (some ⟨m, 0, none⟩), .int .i64 i] [bm m f s] (X := Unit) (fun _ => True) (fun _ => .tuple #[.int .i64 (stV f s i : Int), .int .i64 (stC f s i)]) (fun _ => [bm m f s]) := by
 refine Fn.mk' (n := 27) (l := [(0, .pointer (some ⟨m, 0, none⟩)), (1, .int .i64 i)]) (fn := Tryz.f68) Tryz.func68 (by kernel_rfl) rfl rfl (by simp) rfl ?_
 intro h0 w0
 refine J.sr <| JL.as Ev.c <| JL.as Ev.c <| JL.ns <| J.block <| J.sr <| JL.mv (t2 rfl) <| JL.rd (Rd.eqlNil (t0 rfl) Tryz.runUnderlying25) <| JL.as (t0 rfl) <| JL.n2 <| J.condF (EvB (t0 rfl) rfl) <| J.sr <| JL.mv (t5 rfl) <| JL.mv (t7 rfl) <| JL.ef (Ef.call (.cons (t1 rfl) (.cons (t0 rfl) .nil)) (has_any m f s i hi hi2) (by repeat constructor) ?_)
 rintro - -
 simp only [cA, nA]
 refine JL.rd (Rd.notD (t0 rfl)) <| JL.as (t0 rfl) <| JL.n2 <| J.condD (t0 rfl) ?_ ?_
 intro hc1
 have hin : ¬ ((f : Int) ≤ i ∧ i - f < s.length) := hc1
 obtain ⟨e1, e2⟩ := stC_out hin
 exact J.sr <| JL.as Ev.c <| JL.as Ev.c <| JL.nr <| At.blkR <| At.nextR <| At.ret (()) (trivial) (ResV.two rfl (t1 rfl) (t0 rfl)) (by rw [e1, e2]; rfl) (fun _ st => Stars.sel (by repeat constructor) st)
 intro hc1
 have hin : ((f : Int) ≤ i ∧ i - f < s.length) := by simpa using hc1
 obtain ⟨e1, e2⟩ := stC_in hin
 have hcl := (s.getD (i - f).toNat 0).toNat_lt
 refine J.openT (by repeat constructor) bm_open ?_
 rintro ⟨a, c⟩ ⟨hfm, hsm⟩
 dsimp only
 simp only [cA, nA]
 refine J.skip <| At.blkN <| At.next <| J.seq <| J.draw [lz, lz, lz, lz, lz, lz, lz, lz, lz, lz, lz, lz, lz, lz, lz] [] mixed rfl <| DRun.end [] [0, 1, 2, 3, 4, 5, 6, 7, 8, 9, 10, 11, 12, 13, 14] rfl rfl ?_ ?_
 exact .nil
 refine DNew.rd rfl (Rd.move (t10 rfl)) <| DNew.rd rfl (Rd.nil (t0 rfl)) <| DNew.rd rfl ((by first | exact Rd.fld0 fld_124_1 (t0 rfl) | exact Rd.fld fld_124_1 (t0 rfl))) ?_
 refine DNew.rd rfl (Rd.ldN Tryz.isAgg122 (t0 rfl) (by repeat constructor) (by repeat constructor)) ?_
 refine DNew.rd rfl (Rd.move (t15 rfl)) <| DNew.rd rfl (Rd.move (t15 rfl)) <| DNew.rd rfl (Rd.nil (t0 rfl)) <| DNew.rd rfl ((by first | exact Rd.fld0 fld_124_0 (t0 rfl) | exact Rd.fldz fld_124_0 (t0 rfl))) ?_
 refine DNew.rd rfl (Rd.ldN Tryz.isAgg3 (t0 rfl) (by repeat constructor) (by repeat constructor)) ?_
 refine DNew.rd rfl (Rd.sub (t4 rfl) (t0 rfl) (w64 (by omega) (by omega))) ?_
 refine DNew.rd rfl (Rd.byIdx Tryz.runUnderlying122 Tryz.sizeOf5 (t6 rfl) (t0 rfl) (Src.i (by repeat constructor)) (by first | (simp; done) | (simp; omega) | omega | (simp [*]; done) | (simp [*]; omega)) (by omega) (by omega)) ?_
 refine DNew.rd rfl (Rd.byLd Tryz.isAgg5 (t0 rfl) (Src.i (by repeat constructor)) (by first | (simp; done) | (simp; omega) | omega | (simp [*]; done) | (simp [*]; omega))) ?_
 refine DNew.rd rfl (Rd.conv (t0 rfl) (fun w => ⟨_, Tryz.runUnderlying5 w⟩) Tryz.runUnderlying3 (w64 (by omega) (by omega))) ?_
 exact DNew.rd rfl (Rd.assign (t0 rfl)) <| DNew.rd rfl (Rd.assign Ev.c) <| DNew.n2 <| J.ret <| At.ret (()) (trivial) (ResV.two rfl (t1 rfl) (t0 rfl)) (by rw [e1, e2]) (fun _ st => bm_shut hfm hsm (Stars.sel (by repeat constructor) st))

set_option maxHeartbeats 400000 in
theorem mnew_any (f n : Nat) (hf : f ≤ 1073741824) (h1 : 1 ≤ n) (h2 : n ≤ 65536) :
    Fn Tryz.prog 40 [.int .i64 (f : Int), .int .i64 (n : Int)] [] (X := Nat) (fun _ => True) (fun x => .tuple #[.pointer (some ⟨x, 0, none⟩), .int .i64 0]) (fun x => [bm x f (List.replicate n 0)]) := by
 refine Fn.mk' (n := 25) (l := [(0, .int .i64 (f : Int)), (1, .int .i64 (n : Int))]) (fn := Tryz.f40) Tryz.func40 (by kernel_rfl) rfl rfl (by simp) rfl ?_
 intro h0 w0
 refine J.sr <| JL.as Ev.c <| JL.as Ev.c <| JL.n5 <| JL.mv (t2 rfl) <| JL.rd (Rd.lss (t0 rfl) Ev.c) <| JL.mv (t0 rfl) <| JL.rdG rfl (EvB (t0 rfl) (decide_eq_false (by omega))) rfl (Rd.move (t5 rfl)) ?_
 refine JL.rdG rfl (EvB (t1 rfl) (decide_eq_false (by omega))) rfl (Rd.gtr (t0 rfl) Ev.c) ?_
 refine JL.rd (Rd.pickF (EvB (t2 rfl) (decide_eq_false (by omega))) (t0 rfl)) ?_
 refine JL.mv (t0 rfl) <| JL.rdG rfl (EvB (t0 rfl) (decide_eq_false (by omega))) rfl (Rd.move (t10 rfl)) ?_
 refine JL.rdG rfl (EvB (t1 rfl) (decide_eq_false (by omega))) rfl (Rd.lss (t0 rfl) Ev.c) ?_
 refine JL.rd (Rd.pickF (EvB (t2 rfl) (decide_eq_false (by omega))) (t0 rfl)) ?_
 refine JL.mv (t0 rfl) <| JL.rdG rfl (EvB (t0 rfl) (decide_eq_false (by omega))) rfl (Rd.move (t14 rfl)) ?_
 refine JL.rdG rfl (EvB (t1 rfl) (decide_eq_false (by omega))) rfl (Rd.gtr (t0 rfl) Ev.c) ?_
 refine JL.rd (Rd.pickF (EvB (t2 rfl) (decide_eq_false (by omega))) (t0 rfl)) ?_
 refine JL.n2 <| J.condF (EvB (t0 rfl) (decide_eq_false (by omega))) ?_
 refine J.k4 <| JL.mv (t16 rfl) <| JL.mv (t18 rfl) <| JL.ef (Ef.mkbytes (n := n) (i := Tryz.t5) Tryz.runUnderlying122 (fun w => by kernel_rfl) Tryz.sizeOf5 Tryz.zeroValue5 (t0 rfl) (t0 rfl) (by show 1 * n ≤ _; omega) (by omega) (by simp only [maxLen]; omega) ?_)
 intro bs
 refine JL.rd (Rd.buildS (.cons (t2 rfl) (.cons (t0 rfl) .nil)) bld_124 (by repeat (first | exact FillN.nil | apply FillN.one rfl rfl (by repeat constructor)))) ?_
 refine JL.ef (Ef.box (t0 rfl) rfl ?_)
 intro b1
 exact JL.as (t0 rfl) <| JL.as Ev.c <| JL.nr <| At.ret (b1) (trivial) (ResV.two rfl (t1 rfl) (t0 rfl)) rfl (fun _ st => bm_shut (s := List.replicate n 0) hf (by simp; omega) (by rw [List.length_replicate]; exact Stars.sel (by repeat constructor) st))
def ints (l : List Int) : List (List Value) := l.map fun z => [Value.int .i64 z]
@[simp] theorem ints_length (l : List Int) : (ints l).length = l.length := List.length_map _
def giveC (f : Nat) (s : Bs) (i : Int) : Int := if stC f s i ≠ 0 then stC f s i else if stV f s i = 1 then 0 else if stV f s i = 2 then 0 else 10
def giveS (f : Nat) (s : Bs) (i : Int) : Bs := if stC f s i ≠ 0 then s else if stV f s i = 1 then s.set (i - f).toNat 3 else if stV f s i = 2 then s.set (i - f).toNat 0 else s

set_option maxHeartbeats 400000 in
theorem give_any (m f : Nat) (s : Bs) (i : Int) (hi : -1099511627776 ≤ i) (hi2 : i ≤ 1099511627776) :
    Fn Tryz.prog 66 [.pointer (some ⟨m, 0, none⟩), .int .i64 i] [bm m f s] (X := Unit) (fun _ => True) (fun _ => .int .i64 (giveC f s i)) (fun _ => [bm m f (giveS f s i)]) := by
 refine Fn.mk' (n := 45) (l := [(0, .pointer (some ⟨m, 0, none⟩)), (1, .int .i64 i)]) (fn := Tryz.f66) Tryz.func66 (by kernel_rfl) rfl rfl (by simp) rfl ?_
 intro h0 w0
 refine J.sr <| JL.as Ev.c <| JL.n4 <| JL.mv (t1 rfl) <| JL.mv (t3 rfl) <| JL.ef (Ef.call (.cons (t1 rfl) (.cons (t0 rfl) .nil)) (state_any m f s i (by omega) (by omega)) (by repeat constructor) ?_)
 rintro - -
 simp only [cA, nA]
 refine JL.mv (t0 rfl) <| JL.e (t0 rfl) <| JL.e (t1 rfl) <| JL.as (t1 rfl) <| JL.as (t1 rfl) <| JL.ns <| J.block <| J.sr <| JL.mv (t0 rfl) <| JL.rd (Rd.neq (t0 rfl) Ev.c) <| JL.as (t0 rfl) <| JL.n2 <| J.condD (t0 rfl) ?_ ?_
 intro hc1
 have hc0 : stC f s i ≠ 0 := hc1
 exact J.sr <| JL.mv (t3 rfl) <| JL.as (t0 rfl) <| JL.nr <| At.blkR <| At.nextR <| At.ret (()) (trivial) (ResV.one rfl (t0 rfl)) (by simp [giveC, *]) (fun _ st => by have e : giveS f s i = s := (by simp [giveS, *]); rw [e]; exact Stars.sel (by repeat constructor) st)
 intro hc1
 have hc0 : stC f s i = 0 := by simpa using hc1
 refine J.sr <| JL.mv (t4 rfl) <| JL.rd (Rd.eql (t0 rfl) Ev.c) <| JL.as (t0 rfl) <| JL.n2 <| J.condD (t0 rfl) ?_ ?_
 intro hc2
 have hv1 : stV f s i = 1 := by omega
 have hin : ((f : Int) ≤ i ∧ i - f < s.length) := by
   by_cases h : ((f : Int) ≤ i ∧ i - f < s.length)
   · exact h
   · exact absurd (stC_out h).1 (by omega)
 obtain ⟨e1, e2⟩ := stC_in hin
 refine J.openT (by repeat constructor) bm_open ?_
 rintro ⟨a, c⟩ ⟨hfm, hsm⟩
 dsimp only
 simp only [cA, nA]
 refine J.draw [lz, lz, lz, lz, lz, lz, lz, lz, lz, lz, lz, ⟨true, 0, 0⟩] [11] mixed rfl <| DRun.at [] [0, 1, 2, 3, 4, 5, 6, 7, 8, 9, 10] rfl rfl ?_ ?_
 exact .nil
 refine DNew.rd rfl (Rd.move (t15 rfl)) <| DNew.rd rfl (Rd.nil (t0 rfl)) <| DNew.rd rfl ((by first | exact Rd.fld0 fld_124_1 (t0 rfl) | exact Rd.fld fld_124_1 (t0 rfl))) ?_
 refine DNew.rd rfl (Rd.ldN Tryz.isAgg122 (t0 rfl) (by repeat constructor) (by repeat constructor)) ?_
 refine DNew.rd rfl (Rd.move (t20 rfl)) <| DNew.rd rfl (Rd.move (t20 rfl)) <| DNew.rd rfl (Rd.nil (t0 rfl)) <| DNew.rd rfl ((by first | exact Rd.fld0 fld_124_0 (t0 rfl) | exact Rd.fldz fld_124_0 (t0 rfl))) ?_
 refine DNew.rd rfl (Rd.ldN Tryz.isAgg3 (t0 rfl) (by repeat constructor) (by repeat constructor)) ?_
 refine DNew.rd rfl (Rd.sub (t4 rfl) (t0 rfl) (w64 (by omega) (by omega))) ?_
 refine DNew.rd rfl (Rd.byIdx Tryz.runUnderlying122 Tryz.sizeOf5 (t6 rfl) (t0 rfl) (Src.i (by repeat constructor)) (by first | (simp; done) | (simp; omega) | omega | (simp [*]; done) | (simp [*]; omega)) (by omega) (by omega)) ?_
 refine DNew.nil <| DRun.ef0 rfl (Ef.bySt (c := 3) Tryz.sizeOf5 (t0 rfl) Ev.c (by repeat constructor) (by omega) ?_)
 refine DRun.end [] [] rfl rfl ?_ ?_
 exact .nil
 exact DNew.nil <| At.blkN <| At.next <| J.sr <| JL.as Ev.c <| JL.nr <| At.ret (()) (trivial) (ResV.one rfl (t0 rfl)) (by simp [giveC, *]) (fun _ st => by have e : giveS f s i = s.set (i - f).toNat 3 := (by simp [giveS, *]); rw [e]; have hlen : (s.set (i - f).toNat 3).length = s.length := List.length_set; have s1 := Stars.sel (pre := [pts m (.cells [.int .i64 (f : Int), .slice a s.length c].toArray 124), bytesA a c (s.set (i - f).toNat 3)]) (by repeat constructor) st; rw [← hlen] at s1; exact bm_shut hfm (by rw [hlen]; exact hsm) s1)
 intro hc2
 have hv1 : stV f s i ≠ 1 := by omega
 refine J.sr <| JL.mv (t7 rfl) <| JL.rd (Rd.eql (t0 rfl) Ev.c) <| JL.as (t0 rfl) <| JL.n2 <| J.condD (t0 rfl) ?_ ?_
 intro hc3
 have hv2 : stV f s i = 2 := by omega
 have hin : ((f : Int) ≤ i ∧ i - f < s.length) := by
   by_cases h : ((f : Int) ≤ i ∧ i - f < s.length)
   · exact h
   · exact absurd (stC_out h).1 (by omega)
 obtain ⟨e1, e2⟩ := stC_in hin
 refine J.openT (by repeat constructor) bm_open ?_
 rintro ⟨a, c⟩ ⟨hfm, hsm⟩
 dsimp only
 simp only [cA, nA]
 refine J.draw [lz, lz, lz, lz, lz, lz, lz, lz, lz, lz, lz, ⟨true, 0, 0⟩] [11] mixed rfl <| DRun.at [] [0, 1, 2, 3, 4, 5, 6, 7, 8, 9, 10] rfl rfl ?_ ?_
 exact .nil
 refine DNew.rd rfl (Rd.move (t18 rfl)) <| DNew.rd rfl (Rd.nil (t0 rfl)) <| DNew.rd rfl ((by first | exact Rd.fld0 fld_124_1 (t0 rfl) | exact Rd.fld fld_124_1 (t0 rfl))) ?_
 refine DNew.rd rfl (Rd.ldN Tryz.isAgg122 (t0 rfl) (by repeat constructor) (by repeat constructor)) ?_
 refine DNew.rd rfl (Rd.move (t23 rfl)) <| DNew.rd rfl (Rd.move (t23 rfl)) <| DNew.rd rfl (Rd.nil (t0 rfl)) <| DNew.rd rfl ((by first | exact Rd.fld0 fld_124_0 (t0 rfl) | exact Rd.fldz fld_124_0 (t0 rfl))) ?_
 refine DNew.rd rfl (Rd.ldN Tryz.isAgg3 (t0 rfl) (by repeat constructor) (by repeat constructor)) ?_
 refine DNew.rd rfl (Rd.sub (t4 rfl) (t0 rfl) (w64 (by omega) (by omega))) ?_
 refine DNew.rd rfl (Rd.byIdx Tryz.runUnderlying122 Tryz.sizeOf5 (t6 rfl) (t0 rfl) (Src.i (by repeat constructor)) (by first | (simp; done) | (simp; omega) | omega | (simp [*]; done) | (simp [*]; omega)) (by omega) (by omega)) ?_
 refine DNew.nil <| DRun.ef0 rfl (Ef.bySt (c := 0) Tryz.sizeOf5 (t0 rfl) Ev.c (by repeat constructor) (by omega) ?_)
 refine DRun.end [] [] rfl rfl ?_ ?_
 exact .nil
 refine DNew.nil <| At.blkN <| At.next <| J.seq <| J.live (K := [(4, _)]) ⟨(lk28 rfl), trivial⟩ ?_
 intro ρ4
 exact J.region <| JL.as Ev.c <| JL.nr <| At.ret (()) (trivial) (ResV.one rfl (t0 rfl)) (by simp [giveC, *]) (fun _ st => by have e : giveS f s i = s.set (i - f).toNat 0 := (by simp [giveS, *]); rw [e]; have hlen : (s.set (i - f).toNat 0).length = s.length := List.length_set; have s1 := Stars.sel (pre := [pts m (.cells [.int .i64 (f : Int), .slice a s.length c].toArray 124), bytesA a c (s.set (i - f).toNat 0)]) (by repeat constructor) st; rw [← hlen] at s1; exact bm_shut hfm (by rw [hlen]; exact hsm) s1)
 intro hc3
 have hv2 : stV f s i ≠ 2 := by omega
 exact J.sr <| JL.as Ev.c <| JL.nr <| At.blkR <| At.nextR <| At.ret (()) (trivial) (ResV.one rfl (t0 rfl)) (by simp [giveC, *]) (fun _ st => by have e : giveS f s i = s := (by simp [giveS, *]); rw [e]; exact Stars.sel (by repeat constructor) st)

end Go.Proofs.YtbhladkbnleeoaaGreat

namespace Go.Proofs.YtbhladkbnleeoaaGreat

theorem Stars.foldQ {A F G : Assn} (e : ∀ h, G h ↔ Stars ([A] ++ [F]) h) {l : List Assn} {h : Frag} (s : Stars (A :: F :: l) h) : Stars (G :: l) h :=
  Stars.shut (L := [A, F]) (fun h t => (e h).2 t) s

section
variable {P : Program} {C : Cx} {hs hs1 : List Assn} {ρ : Env} {d : Option Tmp} {ty : TypeId} {pos : String} {af : Array Edge} {g : Option (Nat × Bool)} {K : Value → List Assn → Prop} {t e : TypeId}
/-- A literal whose building is known, as a row. -/
theorem Ef.litR {parts : List (Nat × Operand)} {vs : List (Nat × Value)} {us : List (List Value)} {n s : Nat} (h : EvP C.n ρ parts vs)
    (hr : ∀ w, (Instr.buildSlice t n vs.toArray).run P w = .ok (.slice (some ⟨w.heap.size, 0, none⟩) n n) (w.alloc (.cells us.flatten.toArray e))) (hf : Flat s us) (hn : us.length = n) (hc : us.flatten.length = n * s) (hm : n ≤ maxLen)
    (k : ∀ b, K (.slice (some ⟨b, 0, none⟩) n n) (row (some ⟨b, 0, none⟩) n e s us :: hs)) : Ef P C hs ρ ⟨d, .buildSlice t n parts.toArray, ty, pos, af, g⟩ K := by
  refine Ef.csq (Ef.slitR (cs := us.flatten) (e := e) h hr fun b => ⟨row (some ⟨b, 0, none⟩) n e s us :: hs, fun h st => ?_, k b⟩)
  refine row_mk (lo := 0) (hi := 0) hf (.inl (Nat.le_refl _)) hc (Nat.le_of_eq hn) hm ?_ st
  rw [hn, ← hc, List.take_length]
end
theorem J.shut2 {P : Program} {C : Cx} {Q : Exit → Act → World → Prop} {ρ : Env} {hs h1 h2 : List Assn} {c : Code} (A B G : Assn) (f : ∀ {l : List Assn} {h : Frag}, Stars (A :: B :: l) h → Stars (G :: l) h) (t1 : Take A hs h1) (t2 : Take B h1 h2) (k : J P C c Q ρ (G :: h2)) : J P C c Q ρ hs :=
  J.weak (fun _ s => f (Stars.perm (t1.perm.trans (List.Perm.cons _ t2.perm)) s)) k
theorem exL_1 {X : Type} {L : X → List Assn} (x : X) {A : Assn} {h : Frag} (s : Stars (A :: L x) h) : Stars [A, exL L] h :=
  Stars.app_right (m := [A]) (l := L x) (fun _ s => exL_mk x (l := []) (by rw [List.append_nil]; exact s)) s
theorem exL_2 {X : Type} {L : X → List Assn} (x : X) {A B : Assn} {h : Frag} (s : Stars (A :: B :: L x) h) : Stars [A, B, exL L] h :=
  Stars.app_right (m := [A, B]) (l := L x) (fun _ s => exL_mk x (l := []) (by rw [List.append_nil]; exact s)) s
theorem Ef.csqI {P : Program} {C : Cx} {hs : List Assn} {ρ : Env} {o : Oper} {K : Value → List Assn → Prop} (h : Ef P C hs ρ o fun u l' => ∃ l'', (∀ w, C.inv l' w → C.inv l'' w) ∧ K u l'') : Ef P C hs ρ o K := by
  intro w hi
  rcases h w hi with ⟨u, hs', w', hr, hi2, l'', hl, hk⟩ | ⟨f, ar, w', hr, hp⟩ | ⟨l0, fn, tm, ag, bo, w', hr, hp⟩
  · exact .inl ⟨u, l'', w', hr, hl _ hi2, hk⟩
  · refine .inr (.inl ⟨f, ar, w', hr, hp.mono ?_⟩)
    rintro e' w2 ⟨u, hs', he, hi2, l'', hl, hk⟩
    exact ⟨u, l'', he, hl _ hi2, hk⟩
  · refine .inr (.inr ⟨l0, fn, tm, ag, bo, w', hr, hp.mono ?_⟩)
    rintro e' w2 ⟨u, hs', he, hi2, l'', hl, hk⟩
    exact ⟨u, l'', he, hl _ hi2, hk⟩
theorem selL_le (p : Nat → Bool) (n : Nat) : (selL p n).length ≤ n := by
  unfold selL
  exact Nat.le_trans (List.length_filter_le _ _) (by simp)
end Go.Proofs.YtbhladkbnleeoaaGreat

namespace Go.Proofs.YtbhladkbnleeoaaGreat
set_option maxRecDepth 100000
attribute [local irreducible] J JL At Rd Ef DNew DCar DRun Then RetQ LoopQ

set_option maxHeartbeats 400000 in
theorem index_any (a : Option Addr) (n c : Nat) (l : List Int) (v : Int) (hln : l.length = n) (hn : n ≤ 1048576) (A : Assn) (hA : ∀ {hs hs1 : List Assn}, Take A hs hs1 → SIn hs a 1 (ints l)) :
    Fn Tryz.prog 74 [.slice a n c, .int .i64 v] [A] (X := Int) (fun r => (0 ≤ r ↔ v ∈ l) ∧ -1 ≤ r ∧ r ≤ 1048576) (fun r => .int .i64 r) (fun _ => [A]) := by
 refine Fn.mk' (n := 19) (l := [(0, .slice a n c), (1, .int .i64 v)]) (fn := Tryz.f74) Tryz.func74 (by kernel_rfl) rfl rfl (by simp) rfl ?_
 intro h0 w0
 refine J.sr <| JL.as Ev.c <| JL.n5 <| JL.mv (t1 rfl) <| JL.rd (Rd.len Tryz.runUnderlying34 (t0 rfl)) <| JL.mv Ev.c <| JL.nb <| J.loop (X := Nat) (fun (x : Nat) => [(8, .int .i64 (x : Int))]) (K := [(7, _), (4, _), (0, _), (1, _)]) (fun x => [A]) (fun x => x ≤ n ∧ v ∉ l.take x) (fun x => n - x) (0) ?_ ⟨lk0.trans (by first | with_reducible rfl | (congr 1; omega) | (simp; done) | (simp [*]; done)), trivial⟩ ⟨(lk1 rfl), (lk3 rfl), (lk4 rfl), (lk5 rfl), trivial⟩ (fun _ => Stars.sel (by repeat constructor)) ?_
 exact ⟨Nat.zero_le _, by simp⟩
 rintro x ρ ⟨hk, hall⟩
 simp only [cA, nA]
 refine J.sr <| JL.rd (Rd.lss (t0 rfl) (t1 rfl)) <| JL.ns <| J.condD (t0 rfl) ?_ ?_
 intro hc1
 obtain ⟨z, hz⟩ : ∃ z, l[x]? = some z := ⟨_, List.getElem?_eq_getElem (by omega)⟩
 have hx : (ints l)[(x : Int).toNat]? = some [.int .i64 z] := by simp [ints, hz]
 refine J.skip <| At.next <| J.seq <| J.block <| J.sr <| JL.mv (t1 rfl) <| JL.as (t0 rfl) <| JL.n4 <| JL.mv (t7 rfl) <| JL.mv (t7 rfl) <| JL.mv (t2 rfl) <| JL.rd (Rd.sIdx Tryz.runUnderlying34 Tryz.sizeOf3 (t1 rfl) (t0 rfl) (by first | (apply SIn.row; (repeat constructor); done) | (apply SIn.rowR; (repeat constructor); done) | (apply SIn.bytes; (repeat constructor); done) | (apply hA; (repeat constructor); done)) (by first | (simp; done) | (simp; omega) | omega | (simp [*]; done) | (simp [*]; omega)) (by omega) (by omega)) ?_
 refine JL.rd (Rd.sLd Tryz.isAgg3 (t0 rfl) (by first | (apply SIn.row; (repeat constructor); done) | (apply SIn.rowR; (repeat constructor); done) | (apply SIn.bytes; (repeat constructor); done) | (apply hA; (repeat constructor); done)) hx rfl) ?_
 refine JL.rd (Rd.eql (t4 rfl) (t0 rfl)) <| JL.n2 <| J.condD (t0 rfl) ?_ ?_
 intro hc2
 have he : v = z := hc2
 have hv : v ∈ l := he ▸ List.mem_of_getElem? hz
 exact J.sr <| JL.mv (t6 rfl) <| JL.as (t0 rfl) <| JL.nr <| At.blkR <| At.nextR <| At.loopR <| At.blkR <| At.nextR <| At.r ((x : Int)) (by constructor; (constructor; exact fun _ => hv; intro _; omega); omega) (ResV.one rfl (t0 rfl)) rfl
 intro hc2
 have hne : ¬ v = z := hc2
 refine J.skip <| At.blkN <| At.next <| J.region <| JL.rd (Rd.add (t9 rfl) Ev.c (w64 (by omega) (by omega))) ?_
 refine JL.mv (t0 rfl) <| JL.nil <| At.again (x + 1) ?_ ?_ ⟨lk0.trans (by first | with_reducible rfl | (congr 1; omega) | (simp; done) | (simp [*]; done)), trivial⟩ ⟨(lk12 rfl), (lk13 rfl), (lk14 rfl), (lk15 rfl), trivial⟩ (fun _ => Stars.sel (by repeat constructor))
 exact ⟨by omega, by rw [take_step hz, List.mem_append, List.mem_singleton]; exact fun h => h.elim hall hne⟩
 omega
 intro hc1
 obtain rfl : x = n := by omega
 have hv : v ∉ l := by rw [List.take_of_length_le (by omega)] at hall; exact hall
 exact J.exit <| At.nextX <| At.loopX <| At.blkX <| At.next <| J.sr <| JL.as Ev.c <| JL.nr <| At.r ((-1 : Int)) (by constructor; (constructor; (intro h; omega); exact fun h => absurd h hv); omega) (ResV.one rfl (t0 rfl)) rfl

set_option maxHeartbeats 400000 in
theorem contains_any (a : Option Addr) (n c : Nat) (l : List Int) (v : Int) (hln : l.length = n) (hn : n ≤ 1048576) (A : Assn) (hA : ∀ {hs hs1 : List Assn}, Take A hs hs1 → SIn hs a 1 (ints l)) :
    Fn Tryz.prog 57 [.slice a n c, .int .i64 v] [A] (X := Unit) (fun _ => True) (fun _ => .bool (decide (v ∈ l))) (fun _ => [A]) := by
 refine Fn.mk' (n := 9) (l := [(0, .slice a n c), (1, .int .i64 v)]) (fn := Tryz.f57) Tryz.func57 (by kernel_rfl) rfl rfl (by simp) rfl ?_
 intro h0 w0
 refine J.sr <| JL.as Ev.c <| JL.n4 <| JL.mv (t1 rfl) <| JL.mv (t3 rfl) <| JL.ef (Ef.call (.cons (t1 rfl) (.cons (t0 rfl) .nil)) (index_any a n c l v hln hn A hA) (by repeat constructor) ?_)
 rintro r ⟨hr, hr1, hr2⟩
 simp only [cA, nA]
 exact JL.rd (Rd.geq (t0 rfl) Ev.c) <| JL.as (t0 rfl) <| JL.nr <| At.r (()) (trivial) (ResV.one rfl (t0 rfl)) (by simp [hr])

def inP (s : Bs) (l : List Int) (k : Nat) : Bool := decide (((s.getD k 0).toNat : Int) ∈ l)
/-- The blocks in some states. -/
def inL (s : Bs) (l : List Int) : List Nat := selL (inP s l) s.length
def inV (f : Nat) (xs : List Nat) : List (List Value) := xs.map fun (k : Nat) => [.int .i64 ((f : Int) + (k : Int))]
@[simp] theorem inV_length (f : Nat) (xs : List Nat) : (inV f xs).length = xs.length := List.length_map _
theorem inV_one {f : Nat} {xs : List Nat} {n : Nat} (hn : n = 1) : ∀ x ∈ inV f xs, x.length = n := by
  intro x hx
  obtain ⟨i, _, rfl⟩ := List.mem_map.1 hx
  exact hn.symm
theorem selL_mem {p : Nat → Bool} {n k : Nat} : k ∈ selL p n ↔ k < n ∧ p k = true := by simp [selL]
theorem lit2i (a b : Int) : ∀ w, (Instr.buildSlice 34 2 [(0, Value.int .i64 a), (1, .int .i64 b)].toArray).run Tryz.prog w = .ok (.slice (some ⟨w.heap.size, 0, none⟩) 2 2) (w.alloc (.cells (ints [a, b]).flatten.toArray 3)) := fun w => by kernel_rfl
theorem ints_flat (l : List Int) : Flat 1 (ints l) := fun x hx => by
  obtain ⟨i, _, rfl⟩ := List.mem_map.1 hx
  rfl

set_option maxHeartbeats 400000 in
theorem in_any (p : Option Addr) (a : Option Addr) (n c : Nat) :
    Fn Tryz.prog 29 [.pointer p, .slice a n c] [] (X := Nat × Nat) (fun _ => True) (fun x => .func (.func 55) #[] #[.pointer (some ⟨x.1, 0, none⟩), .pointer (some ⟨x.2, 0, none⟩)]) (fun x => [pts x.1 (.cells [.pointer p].toArray 25), pts x.2 (.cells [.slice a n c].toArray 34)]) := by
 refine Fn.mk' (n := 6) (l := [(0, .pointer p), (1, .slice a n c)]) (fn := Tryz.f29) Tryz.func29 (by kernel_rfl) rfl rfl (by simp) rfl ?_
 intro h0 w0
 refine J.sr <| JL.ef (Ef.box (t0 rfl) rfl ?_)
 intro b1
 refine JL.ef (Ef.box (t2 rfl) rfl ?_)
 intro b2
 exact JL.as Ev.c <| JL.n4 <| JL.rd (Rd.mkfunc .nil (.cons (t2 rfl) (.cons (t1 rfl) .nil))) <| JL.as (t0 rfl) <| JL.nr <| At.r ((b1, b2)) (trivial) (ResV.one rfl (t0 rfl)) rfl

set_option maxHeartbeats 400000 in
theorem in1_any (y : Nat) (G Gx : Nat → Assn) (F : Nat → Assn) (b1 b2 m f : Nat) (s : Bs) (a : Option Addr) (n c : Nat) (l : List Int) (hln : l.length = n) (hn : n ≤ 1048576) (A : Assn) (hA : ∀ {hs hs1 : List Assn}, Take A hs hs1 → SIn hs a 1 (ints l)) (hG : ∀ k h, G k h ↔ Stars ([bm m f s] ++ [F k]) h) (hy : ∀ k x, (inV f (inL s l))[k]? = some x → Yields Tryz.prog y x [G k] [G (k + 1)] [Gx k]) :
    Fn Tryz.prog 55 [.func (.yield y) #[] #[], .pointer (some ⟨b1, 0, none⟩), .pointer (some ⟨b2, 0, none⟩)] [pts b1 (.cells [.pointer (some ⟨m, 0, none⟩)].toArray 25), pts b2 (.cells [.slice a n c].toArray 34), A, G 0] (X := Option Nat) (fun z => ∀ k, z = some k → k < (inL s l).length) (fun _ => .tuple #[]) (fun z => [pts b1 (.cells [.pointer (some ⟨m, 0, none⟩)].toArray 25), pts b2 (.cells [.slice a n c].toArray 34), A] ++ [match z with | none => G (inL s l).length | some k => Gx k]) := by
 refine Fn.mk' (n := 32) (l := [(0, .func (.yield y) #[] #[]), (1, .pointer (some ⟨b1, 0, none⟩)), (2, .pointer (some ⟨b2, 0, none⟩))]) (fn := Tryz.f55) Tryz.func55 (by kernel_rfl) rfl rfl (by simp) rfl ?_
 intro h0 w0
 refine J.openQ (hG 0) (by repeat constructor) ?_
 refine J.sr <| JL.rd (Rd.ldN Tryz.isAgg25 (t1 rfl) (by repeat constructor) (by repeat constructor)) ?_
 refine JL.ef (Ef.call (.cons (t0 rfl) .nil) (count_m m f s) (by repeat constructor) ?_)
 rintro - -
 simp only [cA, nA]
 refine JL.mv Ev.c <| JL.nb <| J.loop (X := Nat) (fun (x : Nat) => [(7, .int .i64 (x : Int))]) (K := [(6, _), (0, _), (1, _), (2, _)]) (fun x => [G (selL (inP s l) x).length, pts b1 (.cells [.pointer (some ⟨m, 0, none⟩)].toArray 25), pts b2 (.cells [.slice a n c].toArray 34), A]) (fun x => x ≤ s.length) (fun x => s.length - x) (0) ?_ ⟨lk0.trans (by first | with_reducible rfl | (congr 1; omega) | (simp; done) | (simp [*]; done)), trivial⟩ ⟨(lk1 rfl), (lk3 rfl), (lk4 rfl), (lk5 rfl), trivial⟩ (fun _ st => Stars.foldQ (hG 0) (Stars.sel (by repeat constructor) st)) ?_
 exact Nat.zero_le _
 intro x ρ hp
 simp only [cA, nA]
 refine J.sr <| JL.rd (Rd.lss (t0 rfl) (t1 rfl)) <| JL.ns <| J.condD (t0 rfl) ?_ ?_
 intro hc1
 have hxl : x < s.length := by omega
 have hcl := (s.getD x 0).toNat_lt
 have hsx := selL_succ (inP s l) x
 refine J.skip <| At.next <| J.seq <| J.block <| J.sr <| JL.mv (t1 rfl) <| JL.as (t0 rfl) <| JL.ns <| J.openQ (hG (selL (inP s l) x).length) (by repeat constructor) ?_
 refine J.openT (by repeat constructor) bm_open ?_
 rintro ⟨a2, c2⟩ ⟨hfm, hsm⟩
 dsimp only
 simp only [cA, nA]
 refine J.draw [lz, lz, lz, lz, lz, lz, lz, lz, lz, ⟨true, 0, 0⟩, ⟨false, 1, 1⟩, ⟨false, 1, 1⟩, ⟨false, 1, 1⟩, ⟨false, 1, 1⟩, ⟨false, 1, 1⟩, ⟨false, 1, 1⟩, ⟨false, 1, 1⟩, ⟨false, 1, 1⟩, ⟨true, 1, 1⟩, ⟨false, 2, 2⟩, ⟨false, 2, 2⟩] [9, 18] mixed rfl <| DRun.at [] [0, 1, 2, 3, 4, 5, 6, 7, 8] rfl rfl ?_ ?_
 exact .nil
 refine DNew.rd rfl (Rd.ldN Tryz.isAgg34 (t7 rfl) (by repeat constructor) (by repeat constructor)) ?_
 refine DNew.rd rfl (Rd.ldN Tryz.isAgg25 (t7 rfl) (by repeat constructor) (by repeat constructor)) ?_
 refine DNew.rd rfl (Rd.nil (t0 rfl)) <| DNew.rd rfl ((by first | exact Rd.fld0 fld_124_1 (t0 rfl) | exact Rd.fld fld_124_1 (t0 rfl))) ?_
 refine DNew.rd rfl (Rd.ldN Tryz.isAgg122 (t0 rfl) (by repeat constructor) (by repeat constructor)) ?_
 refine DNew.rd rfl (Rd.move (t5 rfl)) <| DNew.rd rfl (Rd.byIdx Tryz.runUnderlying122 Tryz.sizeOf5 (t1 rfl) (t0 rfl) (by first | (apply SIn.bytes; (repeat constructor); done) | (apply SIn.rowR; (repeat constructor); done) | (apply hA; (repeat constructor); done)) (by first | (simp; done) | (simp; omega) | omega | (simp [*]; done) | (simp [*]; omega)) (by omega) (by omega)) ?_
 refine DNew.rd rfl (Rd.byLd Tryz.isAgg5 (t0 rfl) (by first | (apply SIn.bytes; (repeat constructor); done) | (apply SIn.rowR; (repeat constructor); done) | (apply hA; (repeat constructor); done)) (by first | (simp; done) | (simp; omega) | omega | (simp [*]; done) | (simp [*]; omega))) ?_
 simp only [Int.toNat_natCast]
 refine DNew.rd rfl (Rd.conv (t0 rfl) (fun w => ⟨_, Tryz.runUnderlying5 w⟩) Tryz.runUnderlying3 (w64 (by omega) (by omega))) ?_
 refine DNew.nil <| DRun.ef rfl (Ef.call (.cons (t8 rfl) (.cons (t0 rfl) .nil)) (contains_any a n c l _ hln hn A hA) (by repeat constructor) ?_)
 rintro - -
 simp only [cA, nA]
 refine DRun.at [] [10, 11, 12, 13, 14, 15, 16, 17] rfl rfl ?_ ?_
 exact .nil
 refine DNew.rd rfl (Rd.move (t0 rfl)) <| DNew.caseB (t0 rfl) ?_ ?_
 intro hb2
 refine DNew.rdG rfl rfl (EvB (t0 rfl) hb2) rfl (Rd.move (t16 rfl)) <| DNew.rdG rfl rfl (EvB (t1 rfl) hb2) rfl (Rd.ldN Tryz.isAgg25 (t18 rfl) (by repeat constructor) (by repeat constructor)) ?_
 refine DNew.rdG rfl rfl (EvB (t2 rfl) hb2) rfl (Rd.nil (t0 rfl)) <| DNew.rdG rfl rfl (EvB (t3 rfl) hb2) rfl ((by first | exact Rd.fld0 fld_124_0 (t0 rfl) | exact Rd.fldz fld_124_0 (t0 rfl))) ?_
 refine DNew.rdG rfl rfl (EvB (t4 rfl) hb2) rfl (Rd.ldN Tryz.isAgg3 (t0 rfl) (by repeat constructor) (by repeat constructor)) ?_
 refine DNew.rdG rfl rfl (EvB (t5 rfl) hb2) rfl (Rd.move (t16 rfl)) <| DNew.rdG rfl rfl (EvB (t6 rfl) hb2) rfl (Rd.add (t1 rfl) (t0 rfl) (w64 (by omega) (by omega))) ?_
 refine DNew.nil <| DRun.efG rfl rfl (EvB (t7 rfl) hb2) rfl (Ef.yield (t6 rfl) (.cons (t0 rfl) .nil) (Yields.pre (pre' := [pts m (.cells [.int .i64 (f : Int), .slice a2 s.length c2].toArray 124), bytesA a2 c2 s, F (selL (inP s l) x).length]) (hy (selL (inP s l) x).length [.int .i64 ((f : Int) + (x : Int))] (by unfold inV inL; rw [List.getElem?_map, selL_hit hxl (by assumption)]; rfl)) (fun _ st => Stars.foldQ (hG _) (bm_shut hfm hsm st))) (by repeat constructor) ?_ ?_)
 simp only [cA, nA]
 refine DRun.end [] [19, 20] rfl rfl ?_ ?_
 exact .nil
 refine DNew.rdG rfl rfl (EvB (t8 rfl) hb2) rfl (Rd.not (EvB (t0 rfl) rfl)) <| DNew.rd rfl (Rd.pickT (EvB (t9 rfl) hb2) (t0 rfl)) <| DNew.n2 <| J.condF (EvB (t0 rfl) rfl) <| J.skip <| At.blkN <| At.next <| J.live (K := [(7, _), (6, _), (0, _), (1, _), (2, _)]) ⟨(lk24 rfl), (lk25 rfl), (lk26 rfl), (lk27 rfl), (lk28 rfl), trivial⟩ ?_
 intro ρ3
 refine J.region <| JL.rd (Rd.add (t0 rfl) Ev.c (w64 (by omega) (by omega))) ?_
 refine JL.mv (t0 rfl) <| JL.nil ?_
 first | rw [if_pos (by assumption)] at hsx | rw [if_neg (by rw [Bool.not_eq_true]; assumption), List.append_nil] at hsx
 first | (refine At.weak (hs' := [G (selL (inP s l) (x + 1)).length, pts b1 (.cells [.pointer (some ⟨m, 0, none⟩)].toArray 25), pts b2 (.cells [.slice a n c].toArray 34), A]) (fun _ st => by rw [hsx]; exact Stars.foldQ (hG (selL (inP s l) x).length) (bm_shut hfm hsm (Stars.sel (by repeat constructor) st))) ?_) | (have hl : (selL (inP s l) x).length + 1 = (selL (inP s l) (x + 1)).length := (by rw [hsx]; simp); rw [hl])
 refine At.again (x + 1) ?_ ?_ ⟨lk0.trans (by first | with_reducible rfl | (congr 1; omega) | (simp; done) | (simp [*]; done)), trivial⟩ ⟨(lk3 rfl), (lk4 rfl), (lk5 rfl), (lk6 rfl), trivial⟩ (fun _ => Stars.sel (by repeat constructor))
 omega
 omega
 simp only [cA, nA]
 refine DRun.end [] [19, 20] rfl rfl ?_ ?_
 exact .nil
 exact DNew.rdG rfl rfl (EvB (t8 rfl) hb2) rfl (Rd.not (EvB (t0 rfl) rfl)) <| DNew.rd rfl (Rd.pickT (EvB (t9 rfl) hb2) (t0 rfl)) <| DNew.n2 <| J.condT (EvB (t0 rfl) rfl) <| J.ret <| At.blkR <| At.nextR <| At.loopR <| At.blkR <| At.r (some (selL (inP s l) x).length) (by intro k hk; cases hk; exact (List.getElem?_eq_some_iff.1 (selL_hit hxl (by assumption))).1) (ResV.nores rfl) rfl
 intro hb2
 refine DNew.skG rfl rfl (EvB (t0 rfl) hb2) rfl <| DNew.skG rfl rfl (EvB (t1 rfl) hb2) rfl <| DNew.skG rfl rfl (EvB (t2 rfl) hb2) rfl <| DNew.skG rfl rfl (EvB (t3 rfl) hb2) rfl <| DNew.skG rfl rfl (EvB (t4 rfl) hb2) rfl <| DNew.skG rfl rfl (EvB (t5 rfl) hb2) rfl <| DNew.skG rfl rfl (EvB (t6 rfl) hb2) rfl <| DNew.nil <| DRun.skG rfl rfl (EvB (t7 rfl) hb2) rfl <| DRun.end [] [19, 20] rfl rfl ?_ ?_
 exact .nil
 refine DNew.skG rfl rfl (EvB (t8 rfl) hb2) rfl <| DNew.rd rfl (Rd.pickF (EvB (t9 rfl) hb2) Ev.c) <| DNew.n2 <| J.condF (t0 rfl) <| J.skip <| At.blkN <| At.next <| J.live (K := [(7, _), (6, _), (0, _), (1, _), (2, _)]) ⟨(lk24 rfl), (lk25 rfl), (lk26 rfl), (lk27 rfl), (lk28 rfl), trivial⟩ ?_
 intro ρ4
 refine J.region <| JL.rd (Rd.add (t0 rfl) Ev.c (w64 (by omega) (by omega))) ?_
 refine JL.mv (t0 rfl) <| JL.nil ?_
 first | rw [if_pos (by assumption)] at hsx | rw [if_neg (by rw [Bool.not_eq_true]; assumption), List.append_nil] at hsx
 first | (refine At.weak (hs' := [G (selL (inP s l) (x + 1)).length, pts b1 (.cells [.pointer (some ⟨m, 0, none⟩)].toArray 25), pts b2 (.cells [.slice a n c].toArray 34), A]) (fun _ st => by rw [hsx]; exact Stars.foldQ (hG (selL (inP s l) x).length) (bm_shut hfm hsm (Stars.sel (by repeat constructor) st))) ?_) | (have hl : (selL (inP s l) x).length + 1 = (selL (inP s l) (x + 1)).length := (by rw [hsx]; simp); rw [hl])
 refine At.again (x + 1) ?_ ?_ ⟨lk0.trans (by first | with_reducible rfl | (congr 1; omega) | (simp; done) | (simp [*]; done)), trivial⟩ ⟨(lk3 rfl), (lk4 rfl), (lk5 rfl), (lk6 rfl), trivial⟩ (fun _ => Stars.sel (by repeat constructor))
 omega
 omega
 intro hc1
 obtain rfl : x = s.length := by omega
 exact J.exit <| At.nextX <| At.loopX <| At.blkX <| At.retN (none) (by intro k hk; cases hk) (ResV.nores rfl) rfl (fun _ => Stars.sel (by repeat constructor))
theorem in_iter (b1 b2 m f : Nat) (s : Bs) (a : Option Addr) (n c : Nat) (l : List Int) (hln : l.length = n) (hn : n ≤ 1048576) (A : Assn) (hA : ∀ {hs hs1 : List Assn}, Take A hs hs1 → SIn hs a 1 (ints l)) :
    IterQ Tryz.prog 55 [.pointer (some ⟨b1, 0, none⟩), .pointer (some ⟨b2, 0, none⟩)] [pts b1 (.cells [.pointer (some ⟨m, 0, none⟩)].toArray 25), pts b2 (.cells [.slice a n c].toArray 34), A] [bm m f s] (inV f (inL s l)) [pts b1 (.cells [.pointer (some ⟨m, 0, none⟩)].toArray 25), pts b2 (.cells [.slice a n c].toArray 34), A] :=
  IterQ.of (inV_length _ _) fun y J Jx F hF hy => in1_any y J Jx (fun k => Stars (F k)) b1 b2 m f s a n c l hln hn A hA (fun k h => (hF k h).trans Stars.wrap.symm) hy
theorem in1_ent : Ent Tryz.prog 55 := ⟨Tryz.f55, by kernel_rfl, rfl, rfl⟩
def isZ (k : Nat) : Prop := k = 0
theorem inL_le (s : Bs) (l : List Int) : (inL s l).length ≤ s.length := selL_le _ _
def takeS (s : Bs) : Bs := match ((inL s [0])[(0 : Nat)]? : Option Nat) with | some k => s.set k 2 | none => s
def takeV (f : Nat) (s : Bs) : Int := match ((inL s [0])[(0 : Nat)]? : Option Nat) with | some k => (f : Int) + (k : Int) | none => 0
def takeC (s : Bs) : Int := match ((inL s [0])[(0 : Nat)]? : Option Nat) with | some _ => 0 | none => 26
theorem take_none {f : Nat} {s : Bs} (h : (inL s [0]).length = 0) : takeS s = s ∧ takeV f s = 0 ∧ takeC s = 26 := by
  have h2 : (inL s [0])[0]? = none := List.getElem?_eq_none (by omega)
  unfold takeS takeV takeC
  rw [h2]
  exact ⟨rfl, rfl, rfl⟩
theorem take_some {f : Nat} {s : Bs} {i : Nat} (h : (inL s [0])[0]? = some i) : takeS s = s.set i 2 ∧ takeV f s = (f : Int) + (i : Int) ∧ takeC s = 0 ∧ i < s.length := by
  have h3 : i < s.length := (selL_mem.1 (List.mem_of_getElem? h)).1
  unfold takeS takeV takeC
  rw [h]
  exact ⟨rfl, rfl, rfl, h3⟩

set_option maxHeartbeats 400000 in
theorem take_m (m f : Nat) (s : Bs) :
    Fn Tryz.prog 112 [.pointer (some ⟨m, 0, none⟩)] [bm m f s] (X := Unit) (fun _ => True) (fun _ => .tuple #[.int .i64 (takeV f s), .int .i64 (takeC s)]) (fun _ => [bm m f (takeS s)]) := by
 refine Fn.mk' (n := 23) (l := [(0, .pointer (some ⟨m, 0, none⟩))]) (fn := Tryz.f112) Tryz.func112 (by kernel_rfl) rfl rfl (by simp) rfl ?_
 intro h0 w0
 refine J.sr <| JL.ef (Ef.box (t0 rfl) rfl ?_)
 intro b1
 refine JL.ef (Ef.alloc Tryz.zeroValue3 rfl ?_)
 intro b2
 refine JL.ef (Ef.alloc Tryz.zeroValue32 rfl ?_)
 intro b3
 refine JL.n5 <| JL.rd (Rd.ldN Tryz.isAgg25 (t2 rfl) (by repeat constructor) (by repeat constructor)) ?_
 refine JL.rd (Rd.eqlNil (t0 rfl) Tryz.runUnderlying25) <| JL.n2 <| J.condF (EvB (t0 rfl) rfl) <| J.skip <| At.next <| J.seq <| J.sr <| JL.rd (Rd.ldN Tryz.isAgg25 (t4 rfl) (by repeat constructor) (by repeat constructor)) ?_
 refine JL.ef (Ef.slit1 elt_34 Ev.c rfl rfl (by decide) ?_)
 intro b4
 refine JL.ef (Ef.call (.cons (t1 rfl) (.cons (t0 rfl) .nil)) (in_any (some ⟨m, 0, none⟩) (some ⟨b4, 0, none⟩) 1 1) (by repeat constructor) ?_)
 rintro ⟨q1, q2⟩ -
 simp only [cA, nA]
 refine JL.nb <| J.live (K := [(9, _), (3, _), (2, _), (1, _)]) ⟨lk0, (lk5 rfl), (lk6 rfl), (lk7 rfl), trivial⟩ ?_
 intro ρ5
 refine J.rangeFuncQ (pk := [bm m f s]) (F := fun k => [pts b1 (.cells [.pointer (some ⟨m, 0, none⟩)].toArray 25), pts b2 (.cells [.int .i64 0].toArray 3), pts b3 (.cells [.int .i64 0].toArray 32), pure_ (isZ k)]) (own := [pts q1 (.cells [.pointer (some ⟨m, 0, none⟩)].toArray 25), pts q2 (.cells [.slice (some ⟨b4, 0, none⟩) 1 1].toArray 34), row (some ⟨b4, 0, none⟩) 1 3 1 (ints [0])]) (own' := [pts q1 (.cells [.pointer (some ⟨m, 0, none⟩)].toArray 25), pts q2 (.cells [.slice (some ⟨b4, 0, none⟩) 1 1].toArray 34), row (some ⟨b4, 0, none⟩) 1 3 1 (ints [0])]) (xs := inV f (inL s [0])) (fun k => [bm m f s, pts b1 (.cells [.pointer (some ⟨m, 0, none⟩)].toArray 25), pts b2 (.cells [.int .i64 0].toArray 3), pts b3 (.cells [.int .i64 0].toArray 32), pure_ (isZ k)]) (fun _ c => [bm m f (takeS s), pts b1 (.cells [.pointer (some ⟨m, 0, none⟩)].toArray 25), pts b2 (.cells [.int .i64 (takeV f s)].toArray 3), pts b3 (.cells [.int .i64 0].toArray 32), pure_ (c = .ret ∧ takeC s = 0)]) (t0 rfl) (in_iter q1 q2 m f s (some ⟨b4, 0, none⟩) 1 1 [0] rfl (by decide) (row (some ⟨b4, 0, none⟩) 1 3 1 (ints [0])) (fun t => SIn.row t)) (in1_ent) (by repeat constructor) (fun x hx => inV_one rfl x hx) (fun _ st => by have s1 := Stars.factE (p := isZ 0) rfl st; simp only [cA, nA] at s1; exact Stars.sel (by repeat constructor) s1) (fun _ _ => Iff.rfl) ?_ ?_ ?_
 intro l r0 fn k x h0 w0 hx
 simp only [inV, List.getElem?_map, Option.map_eq_some_iff] at hx
 obtain ⟨i, hi, rfl⟩ := hx
 simp only [List.zip_cons_cons, List.zip_nil_right, setp_ext, setp_nil]
 refine J.region <| JL.as (t0 rfl) <| JL.nil <| At.asg (by repeat constructor) (by repeat constructor) ?_
 refine J.block <| J.seq <| J.openP (by repeat constructor) ?_
 intro hZ
 obtain rfl : k = 0 := hZ
 obtain ⟨tk1, tk2, tk3, hil⟩ := take_some (f := f) hi
 refine J.openT (by repeat constructor) bm_open ?_
 rintro ⟨a2, c2⟩ ⟨hfm, hsm⟩
 dsimp only
 simp only [cA, nA]
 refine J.draw [lz, lz, lz, lz, lz, lz, lz, lz, lz, lz, lz, ⟨true, 0, 0⟩] [11] mixed rfl <| DRun.at [] [0, 1, 2, 3, 4, 5, 6, 7, 8, 9, 10] rfl rfl ?_ ?_
 exact .nil
 refine DNew.rd rfl (Rd.ldN Tryz.isAgg25 (t5 rfl) (by repeat constructor) (by repeat constructor)) ?_
 refine DNew.rd rfl (Rd.nil (t0 rfl)) <| DNew.rd rfl ((by first | exact Rd.fld0 fld_124_1 (t0 rfl) | exact Rd.fld fld_124_1 (t0 rfl))) ?_
 refine DNew.rd rfl (Rd.ldN Tryz.isAgg122 (t0 rfl) (by repeat constructor) (by repeat constructor)) ?_
 refine DNew.rd rfl (Rd.move (t4 rfl)) <| DNew.rd rfl (Rd.ldN Tryz.isAgg25 (t10 rfl) (by repeat constructor) (by repeat constructor)) ?_
 refine DNew.rd rfl (Rd.nil (t0 rfl)) <| DNew.rd rfl ((by first | exact Rd.fld0 fld_124_0 (t0 rfl) | exact Rd.fldz fld_124_0 (t0 rfl))) ?_
 refine DNew.rd rfl (Rd.ldN Tryz.isAgg3 (t0 rfl) (by repeat constructor) (by repeat constructor)) ?_
 refine DNew.rd rfl (Rd.sub (t4 rfl) (t0 rfl) (w64 (by omega) (by omega))) ?_
 rw [show ((f : Int) + (i : Int)) - (f : Int) = (i : Int) by omega]
 refine DNew.rd rfl (Rd.byIdx Tryz.runUnderlying122 Tryz.sizeOf5 (t6 rfl) (t0 rfl) (Src.i (by repeat constructor)) (by first | (simp; done) | (simp; omega) | omega | (simp [*]; done) | (simp [*]; omega)) (by omega) (by omega)) ?_
 refine DNew.nil <| DRun.ef0 rfl (Ef.bySt (c := 2) Tryz.sizeOf5 (t0 rfl) Ev.c (by repeat constructor) (by omega) ?_)
 simp only [Int.toNat_natCast]
 refine DRun.end [] [] rfl rfl ?_ ?_
 exact .nil
 refine DNew.n2 <| J.seq ?_
 have hlen : (s.set i 2).length = s.length := List.length_set
 refine J.shut2 (pts m (.cells [.int .i64 (f : Int), .slice a2 s.length c2].toArray 124)) (bytesA a2 c2 (s.set i 2)) (bm m f (s.set i 2)) (fun st => by rw [← hlen] at st; exact bm_shut hfm (by rw [hlen]; exact hsm) st) (by repeat constructor) (by repeat constructor) ?_
 refine J.region <| JL.mv (t11 rfl) <| JL.ef0 (Ef.st Tryz.sizeOf3 (t16 rfl) (t0 rfl) rfl (by repeat constructor) (by repeat constructor) (by repeat constructor) (by first | rfl | simp) ?_)
 refine JL.ef0 (Ef.st Tryz.sizeOf32 (t15 rfl) Ev.c rfl (by repeat constructor) (by repeat constructor) (by repeat constructor) (by first | rfl | simp) ?_)
 exact JL.nr <| At.blkR <| At.rndR (by repeat constructor) (by repeat constructor) (fun _ st => by have s1 := Stars.factE (p := Code.ret = .ret ∧ takeC s = 0) ⟨rfl, tk3⟩ st; simp only [cA, nA] at s1; refine exL_mk Code.ret ?_; simp only [List.cons_append, List.nil_append, tk2, tk1]; exact Stars.sel (by repeat constructor) s1)
 intro r0
 simp only [cA, nA]
 refine At.openP (by repeat constructor) ?_
 intro hno
 rw [inV_length] at hno
 have hno : (inL s [0]).length = 0 := hno
 obtain ⟨tk1, tk2, tk3⟩ := take_none (f := f) hno
 refine At.blkN <| At.next <| J.sr <| JL.ef0 (Ef.st Tryz.sizeOf3 (t2 rfl) Ev.c rfl (by repeat constructor) (by repeat constructor) (by repeat constructor) (by first | rfl | simp) ?_)
 refine JL.ef0 (Ef.st Tryz.sizeOf32 (t1 rfl) Ev.c rfl (by repeat constructor) (by repeat constructor) (by repeat constructor) (by first | rfl | simp) ?_)
 exact JL.nr <| At.retM (()) (trivial) (by repeat constructor) (ResV.many (rs := [.cell 2 3, .cell 3 32]) rfl (.one Tryz.isAgg3 (t2 rfl) (by repeat constructor) (.one Tryz.isAgg32 (t1 rfl) (by repeat constructor) .nil)) (by simp)) (by rw [tk2, tk3]) (fun _ st => by rw [tk1]; exact Stars.sel (by repeat constructor) st)
 intro r0 k c hk
 simp only [cA, nA]
 refine J.openP (by repeat constructor) ?_
 rintro ⟨rfl, ht⟩
 exact J.ret <| At.blkR <| At.nextR <| At.retM (()) (trivial) (by repeat constructor) (ResV.many (rs := [.cell 2 3, .cell 3 32]) rfl (.one Tryz.isAgg3 (t2 rfl) (by repeat constructor) (.one Tryz.isAgg32 (t1 rfl) (by repeat constructor) .nil)) (by simp)) (by rw [ht]) (fun _ st => Stars.sel (by repeat constructor) st)
set_option maxHeartbeats 400000 in
theorem appseq_any (q1 q2 m f : Nat) (s : Bs) (hs : s.length ≤ 65536) (a : Option Addr) (n c : Nat) (ss : List Int) (hln : ss.length = n) (hn : n ≤ 1048576) (A : Assn) (hA : ∀ {hs hs1 : List Assn}, Take A hs hs1 → SIn hs a 1 (ints ss)) :
    Fn Tryz.prog 54 [.slice none 0 0, .func (.func 55) #[] #[.pointer (some ⟨q1, 0, none⟩), .pointer (some ⟨q2, 0, none⟩)]] [bm m f s, pts q1 (.cells [.pointer (some ⟨m, 0, none⟩)].toArray 25), pts q2 (.cells [.slice a n c].toArray 34), A] (X := Option Addr × Nat) (fun _ => True) (fun x => .slice x.1 (inL s ss).length x.2) (fun x => [row x.1 x.2 3 1 (inV f (inL s ss)), bm m f s, pts q1 (.cells [.pointer (some ⟨m, 0, none⟩)].toArray 25), pts q2 (.cells [.slice a n c].toArray 34), A]) := by
 refine Fn.mk' (n := 13) (l := [(0, .slice none 0 0), (1, .func (.func 55) #[] #[.pointer (some ⟨q1, 0, none⟩), .pointer (some ⟨q2, 0, none⟩)])]) (fn := Tryz.f54) Tryz.func54 (by kernel_rfl) rfl rfl (by simp) rfl ?_
 intro h0 w0
 refine J.sr <| JL.ef (Ef.box (t0 rfl) rfl ?_)
 intro b1
 refine JL.as Ev.c <| JL.n5 <| JL.mv (t3 rfl) <| JL.nb <| J.live (K := [(6, _), (4, _), (2, _)]) ⟨lk0, (lk1 rfl), (lk2 rfl), trivial⟩ ?_
 intro ρ2
 refine J.rangeFuncQ (pk := [bm m f s]) (F := fun (k : Nat) => [exL fun z : Option Addr × Nat => [pts b1 (.cells [.slice z.1 k z.2].toArray 34), row z.1 z.2 3 1 ((inV f (inL s ss)).take k)]]) (own := [pts q1 (.cells [.pointer (some ⟨m, 0, none⟩)].toArray 25), pts q2 (.cells [.slice a n c].toArray 34), A]) (own' := [pts q1 (.cells [.pointer (some ⟨m, 0, none⟩)].toArray 25), pts q2 (.cells [.slice a n c].toArray 34), A]) (xs := (inV f (inL s ss))) (fun (k : Nat) => [bm m f s, exL fun z : Option Addr × Nat => [pts b1 (.cells [.slice z.1 k z.2].toArray 34), row z.1 z.2 3 1 ((inV f (inL s ss)).take k)]]) (fun _ _ => [pure_ False]) (t0 rfl) (in_iter q1 q2 m f s a n c ss hln hn A hA) (in1_ent) (by repeat constructor) (fun x hx => inV_one rfl x hx) (fun _ st => exL_1 (L := fun z : Option Addr × Nat => [pts b1 (.cells [.slice z.1 (0 : Nat) z.2].toArray 34), row z.1 z.2 3 1 ((inV f (inL s ss)).take 0)]) (none, 0) (Stars.sel (by repeat constructor) (row_nil 3 1 st))) (fun _ _ => Iff.rfl) ?_ ?_ ?_
 intro l r0 fn k x h0 w0 hx
 have hk := (List.getElem?_eq_some_iff.1 hx).1
 have hx2 := hx
 have hle := inL_le s ss
 have htl : ((inV f (inL s ss)).take k).length = k := by rw [List.length_take]; omega
 rw [inV_length] at hk
 simp only [inV, List.getElem?_map, Option.map_eq_some_iff] at hx
 obtain ⟨i, hi, rfl⟩ := hx
 refine J.openE (by repeat constructor) ?_
 rintro ⟨ra, rc⟩
 simp only [List.zip_cons_cons, List.zip_nil_right, setp_ext, setp_nil]
 refine J.region <| JL.as (t0 rfl) <| JL.nil <| At.asg (by repeat constructor) (by repeat constructor) ?_
 refine J.block <| J.region <| JL.rd (Rd.ldN Tryz.isAgg34 (t4 rfl) (by repeat constructor) (by repeat constructor)) ?_
 refine JL.mv (t1 rfl) <| JL.ef (Ef.slit1 elt_34 (t0 rfl) rfl rfl (by decide) ?_)
 intro b3
 refine JL.ef (Ef.appS elt_34 (t2 rfl) (t0 rfl) (by repeat constructor) (by first | (apply SIn.row; (repeat constructor); done) | (apply SIn.rowR; (repeat constructor); done) | (apply SIn.bytes; (repeat constructor); done) | (apply hA; (repeat constructor); done)) (by first | (simp; done) | (simp; omega) | omega | (simp [*]; done) | (simp [*]; omega)) (by first | (simp; done) | (simp; omega) | omega | (simp [*]; done) | (simp [*]; omega)) (by simp [Value.oneCell']) (by first | omega | (simp; omega)) (by first | (simp only [maxLen]; omega) | (simp [maxLen]; omega)) ?_)
 intro a4 c5
 refine JL.ef0 (Ef.st Tryz.sizeOf34 (t8 rfl) (t0 rfl) rfl (by repeat constructor) (by repeat constructor) (by repeat constructor) (by first | rfl | simp) ?_)
 exact JL.nil <| At.blkN <| At.rndN (by repeat constructor) (by repeat constructor) (fun _ st => by rw [← take_step hx2] at st; exact exL_2 (L := fun z : Option Addr × Nat => [pts b1 (.cells [.slice z.1 (k + 1 : Nat) z.2].toArray 34), row z.1 z.2 3 1 ((inV f (inL s ss)).take (k + 1))]) (a4, c5) (Stars.sel (by repeat constructor) st))
 intro r0
 simp only [cA, nA]
 rw [inV_length]
 refine At.openE (by repeat constructor) ?_
 rintro ⟨ra, rc⟩
 dsimp only
 simp only [cA, nA]
 rw [List.take_of_length_le (by simp)]
 refine At.blkN <| At.next <| J.sr <| JL.rd (Rd.ldN Tryz.isAgg34 (t2 rfl) (by repeat constructor) (by repeat constructor)) ?_
 exact JL.as (t0 rfl) <| JL.nr <| At.retM ((ra, rc)) (trivial) (by repeat constructor) (ResV.one rfl (t0 rfl)) rfl (fun _ => Stars.sel (by repeat constructor))
 intro r0 k c hk
 simp only [cA, nA]; refine J.openP (by repeat constructor) ?_; intro h; exact False.elim h

set_option maxHeartbeats 400000 in
theorem collect_any (q1 q2 m f : Nat) (s : Bs) (hs : s.length ≤ 65536) (a : Option Addr) (n c : Nat) (ss : List Int) (hln : ss.length = n) (hn : n ≤ 1048576) (A : Assn) (hA : ∀ {hs hs1 : List Assn}, Take A hs hs1 → SIn hs a 1 (ints ss)) :
    Fn Tryz.prog 28 [.func (.func 55) #[] #[.pointer (some ⟨q1, 0, none⟩), .pointer (some ⟨q2, 0, none⟩)]] [bm m f s, pts q1 (.cells [.pointer (some ⟨m, 0, none⟩)].toArray 25), pts q2 (.cells [.slice a n c].toArray 34), A] (X := Option Addr × Nat) (fun _ => True) (fun x => .slice x.1 (inL s ss).length x.2) (fun x => [row x.1 x.2 3 1 (inV f (inL s ss)), bm m f s, pts q1 (.cells [.pointer (some ⟨m, 0, none⟩)].toArray 25), pts q2 (.cells [.slice a n c].toArray 34), A]) := by
 refine Fn.mk' (n := 5) (l := [(0, .func (.func 55) #[] #[.pointer (some ⟨q1, 0, none⟩), .pointer (some ⟨q2, 0, none⟩)])]) (fn := Tryz.f28) Tryz.func28 (by kernel_rfl) rfl rfl (by simp) rfl ?_
 intro h0 w0
 refine J.sr <| JL.as Ev.c <| JL.n4 <| JL.mv (t1 rfl) <| JL.ef (Ef.call (.cons Ev.c (.cons (t0 rfl) .nil)) (appseq_any q1 q2 m f s hs a n c ss hln hn A hA) (by repeat constructor) ?_)
 rintro ⟨ra, rc⟩ -
 simp only [cA, nA]
 exact JL.as (t0 rfl) <| JL.nr <| At.r ((ra, rc)) (trivial) (ResV.one rfl (t0 rfl)) rfl

set_option maxHeartbeats 400000 in
theorem mused_any (m f : Nat) (s : Bs) (hs : s.length ≤ 65536) :
    Fn Tryz.prog 10 [.pointer (some ⟨m, 0, none⟩)] [bm m f s] (X := Option Addr × Nat) (fun _ => True) (fun x => .slice x.1 (inL s [1, 2]).length x.2) (fun x => [row x.1 x.2 3 1 (inV f (inL s [1, 2])), bm m f s]) := by
 refine Fn.mk' (n := 7) (l := [(0, .pointer (some ⟨m, 0, none⟩))]) (fn := Tryz.f10) Tryz.func10 (by kernel_rfl) rfl rfl (by simp) rfl ?_
 intro h0 w0
 refine J.sr <| JL.as Ev.c <| JL.n4 <| JL.mv (t1 rfl) <| JL.ef (Ef.litR (us := ints [1, 2]) (.cons .c (.cons .c .nil)) (lit2i 1 2) (ints_flat _) rfl rfl (by decide) ?_)
 intro bl
 refine JL.ef (Ef.call (.cons (t1 rfl) (.cons (t0 rfl) .nil)) (in_any (some ⟨m, 0, none⟩) (some ⟨bl, 0, none⟩) 2 2) (by repeat constructor) ?_)
 rintro ⟨q1, q2⟩ -
 simp only [cA, nA]
 refine JL.ef (Ef.call (.cons (t0 rfl) .nil) (collect_any q1 q2 m f s hs (some ⟨bl, 0, none⟩) 2 2 [1, 2] rfl (by decide) (row (some ⟨bl, 0, none⟩) 2 3 1 (ints [1, 2])) (fun t => SIn.row t)) (by repeat constructor) ?_)
 rintro ⟨ra, rc⟩ -
 simp only [cA, nA]
 exact JL.as (t0 rfl) <| JL.nr <| At.r ((ra, rc)) (trivial) (ResV.one rfl (t0 rfl)) rfl
def NdV.sval (x : NdV) : Value := .slice x.a x.cells.length x.cap
def svals (xs : List NdV) : List (List Value) := xs.map fun x => [x.sval]
@[simp] theorem svals_length (xs : List NdV) : (svals xs).length = xs.length := List.length_map _
theorem NdV.cells_one (x : NdV) : ∀ u ∈ x.cells.flatten, u.oneCell' = true := by
  unfold NdV.cells
  split
  · exact itc_one
  · exact kdc_one
def catC (xs : List NdV) : List (List Value) := xs.flatMap NdV.cells
@[simp] theorem catC_nil : catC [] = [] := rfl
theorem cat_step {xs : List NdV} {x : Nat} {v : NdV} (h : xs[x]? = some v) : catC (xs.take (x + 1)) = catC (xs.take x) ++ v.cells := by
  rw [take_step h]; simp [catC]
theorem cat_take (xs : List NdV) (x : Nat) : (catC (xs.take x)).length ≤ (catC xs).length := by
  have h : xs = xs.take x ++ xs.drop x := (List.take_append_drop x xs).symm
  have h2 : catC xs = catC (xs.take x) ++ catC (xs.drop x) := by
    conv => lhs; rw [h]
    simp only [catC, List.flatMap_append]
  rw [h2, List.length_append]
  omega

set_option maxHeartbeats 400000 in
theorem lgrow_any (n : Nat) (hn : n ≤ 1048576) :
    Fn Tryz.prog 67 [.slice none 0 0, .int .i64 (n : Int)] [] (X := Option Addr × Nat) (fun _ => True) (fun x => .slice x.1 0 x.2) (fun x => [row x.1 x.2 64 2 []]) := by
 refine Fn.mk' (n := 27) (l := [(0, .slice none 0 0), (1, .int .i64 (n : Int))]) (fn := Tryz.f67) Tryz.func67 (by kernel_rfl) rfl rfl (by simp) rfl ?_
 intro h0 w0
 refine J.sr <| JL.as Ev.c <| JL.n5 <| JL.mv (t2 rfl) <| JL.rd (Rd.lss (t0 rfl) Ev.c) <| JL.n2 <| J.condD (t0 rfl) ?_ ?_
 intro hc1
 omega
 intro hc1
 refine J.skip <| At.next <| J.seq <| J.sr <| JL.mv (t4 rfl) <| JL.mv (t4 rfl) <| JL.rd (Rd.capS Tryz.runUnderlying85 (t0 rfl)) <| JL.mv (t6 rfl) <| JL.rd (Rd.len Tryz.runUnderlying85 (t0 rfl)) <| JL.rd (Rd.sub (t2 rfl) (t0 rfl) (w64 (by omega) (by omega))) ?_
 refine JL.rd (Rd.sub (t5 rfl) (t0 rfl) (w64 (by omega) (by omega))) ?_
 refine JL.as (t0 rfl) <| JL.n4 <| JL.mv (t0 rfl) <| JL.rd (Rd.gtr (t0 rfl) Ev.c) <| JL.n2 <| J.condD (t0 rfl) ?_ ?_
 intro hc2
 refine J.region <| JL.mv (t13 rfl) <| JL.mv (t14 rfl) <| JL.rd (Rd.capS Tryz.runUnderlying85 (t0 rfl)) <| JL.rd (Rd.slToN (j := 0) Tryz.runUnderlying85 Tryz.sizeOf64 (t2 rfl) (t0 rfl) (Nat.zero_le _)) <| JL.mv (t6 rfl) <| JL.ef (Ef.appZ (n := n) elt_85 Tryz.underlying3 (t1 rfl) (by rw [show ((n : Int)) = ((n : Nat) : Int) from rfl]; exact (t0 rfl)) (by omega) (by omega) (by simp only [maxLen]; omega) ?_)
 intro ga gc hgc
 exact JL.mv (t19 rfl) <| JL.rd (Rd.len Tryz.runUnderlying85 (t0 rfl)) <| JL.rd (Rd.slToN (j := 0) Tryz.runUnderlying85 Tryz.sizeOf64 (t2 rfl) (t0 rfl) (Nat.zero_le _)) <| JL.as (t0 rfl) <| JL.n4 <| JL.mv (t0 rfl) <| JL.as (t0 rfl) <| JL.nr <| At.ret ((some ⟨ga, 0, none⟩, gc)) (trivial) (ResV.one rfl (t0 rfl)) rfl (fun _ s => Stars.sel (by repeat constructor) s)
 intro hc2
 exact J.k4 <| JL.mv (t13 rfl) <| JL.as (t0 rfl) <| JL.nr <| At.ret ((none, 0)) (trivial) (ResV.one rfl (t0 rfl)) rfl (fun _ s => row_nil 64 2 (Stars.sel (by repeat constructor) s))

set_option maxHeartbeats 400000 in
theorem lcat_any (al : Option Addr) (n cl : Nat) (xs : List NdV) (hn : xs.length = n) (hnn : n ≤ 1048576) (ht : (catC xs).length ≤ 1048576) (A : Assn) (hA : ∀ {hs hs1 : List Assn}, Take A hs hs1 → SIn hs al 1 (svals xs)) :
    Fn Tryz.prog 35 [.slice al n cl] [A, nodesM xs] (X := Option Addr × Nat) (fun _ => True) (fun x => .slice x.1 (catC xs).length x.2) (fun x => [row x.1 x.2 64 2 (catC xs), A, nodesM xs]) := by
 refine Fn.mk' (n := 36) (l := [(0, .slice al n cl)]) (fn := Tryz.f35) Tryz.func35 (by kernel_rfl) rfl rfl (by simp) rfl ?_
 intro h0 w0
 refine J.sr <| JL.as Ev.c <| JL.n4 <| JL.as Ev.c <| JL.n5 <| JL.mv (t2 rfl) <| JL.rd (Rd.len Tryz.runUnderlying138 (t0 rfl)) <| JL.mv Ev.c <| JL.nb <| J.loop (X := Nat) (fun (x : Nat) => [(11, .int .i64 (x : Int)), (3, .int .i64 ((catC (xs.take x)).length : Int))]) (K := [(10, _), (9, _), (2, _), (0, _)]) (fun x => [A, nodesM xs]) (fun x => x ≤ n) (fun x => n - x) (0) ?_ ⟨lk0.trans (by first | ((rw [hst]; done); done) | with_reducible rfl | (congr 1; omega) | (simp; done) | (simp [*]; done)), (lk3 rfl).trans (by first | ((rw [hst]; done); done) | with_reducible rfl | (congr 1; omega) | (simp; done) | (simp [*]; done)), trivial⟩ ⟨(lk1 rfl), (lk2 rfl), (lk4 rfl), (lk5 rfl), trivial⟩ (fun _ => Stars.sel (by repeat constructor)) ?_
 exact Nat.zero_le _
 intro x ρ hp
 simp only [cA, nA]
 refine J.sr <| JL.rd (Rd.lss (t0 rfl) (t2 rfl)) <| JL.ns <| J.condD (t0 rfl) ?_ ?_
 intro hc1
 obtain ⟨v, hv⟩ : ∃ v, xs[x]? = some v := ⟨_, List.getElem?_eq_getElem (by omega)⟩
 have hx : (svals xs)[(x : Int).toNat]? = some [.slice v.a v.cells.length v.cap] := by simp [svals, hv, NdV.sval]
 have hst : (catC (xs.take (x + 1))).length = (catC (xs.take x)).length + v.cells.length := by rw [cat_step hv, List.length_append]
 have hct := cat_take xs (x + 1)
 refine J.skip <| At.next <| J.seq <| J.block <| J.sr <| JL.rd (Rd.sIdx Tryz.runUnderlying138 Tryz.sizeOf85 (t4 rfl) (t1 rfl) (by first | (apply SIn.row; (repeat constructor); done) | (apply SIn.rowR; (repeat constructor); done) | (apply SIn.bytes; (repeat constructor); done) | (apply hA; (repeat constructor); done)) (by first | (simp; done) | (simp; omega) | omega | (simp [*]; done) | (simp [*]; omega)) (by omega) (by omega)) ?_
 refine JL.rd (Rd.sLd Tryz.isAgg85 (t0 rfl) (by first | (apply SIn.row; (repeat constructor); done) | (apply SIn.rowR; (repeat constructor); done) | (apply SIn.bytes; (repeat constructor); done) | (apply hA; (repeat constructor); done)) hx rfl) ?_
 refine JL.as (t0 rfl) <| JL.n4 <| JL.mv (t5 rfl) <| JL.mv (t1 rfl) <| JL.rd (Rd.len Tryz.runUnderlying85 (t0 rfl)) <| JL.rd (Rd.add (t2 rfl) (t0 rfl) (w64 (by omega) (by omega))) ?_
 refine JL.as (t0 rfl) <| JL.n4 <| JL.mv (t0 rfl) <| JL.rd (Rd.lss (t0 rfl) Ev.c) <| JL.n2 <| J.condD (t0 rfl) ?_ ?_
 intro hc2
 omega
 intro hc2
 refine J.skip <| At.blkN <| At.next <| J.region <| JL.rd (Rd.add (t11 rfl) Ev.c (w64 (by omega) (by omega))) ?_
 refine JL.mv (t0 rfl) <| JL.nil <| At.again (x + 1) ?_ ?_ ⟨lk0.trans (by first | ((rw [hst]; done); done) | with_reducible rfl | (congr 1; omega) | (simp; done) | (simp [*]; done)), (lk4 rfl).trans (by first | ((rw [hst]; done); done) | with_reducible rfl | (congr 1; omega) | (simp; done) | (simp [*]; done)), trivial⟩ ⟨(lk15 rfl), (lk16 rfl), (lk17 rfl), (lk18 rfl), trivial⟩ (fun _ => Stars.sel (by repeat constructor))
 omega
 omega
 intro hc1
 obtain rfl : n = x := by omega
 rw [List.take_of_length_le (by omega)]
 refine J.exit <| At.nextX <| At.loopX <| At.blkX <| At.next <| J.sr <| JL.mv (t2 rfl) <| JL.ef (Ef.call (.cons Ev.c (.cons (t0 rfl) .nil)) (lgrow_any (catC xs).length ht) (by repeat constructor) ?_)
 rintro ⟨ga, gc⟩ -
 simp only [cA, nA]
 refine JL.as (t0 rfl) <| JL.n5 <| JL.mv (t9 rfl) <| JL.rd (Rd.len Tryz.runUnderlying138 (t0 rfl)) <| JL.mv Ev.c <| JL.nb <| J.loop (X := Nat × Option Addr × Nat) (fun (x : Nat × Option Addr × Nat) => [(27, .int .i64 (x.1 : Int)), (6, .slice x.2.1 (catC (xs.take x.1)).length x.2.2)]) (K := [(26, _), (25, _), (2, _)]) (fun x => [A, nodesM xs, row x.2.1 x.2.2 64 2 (catC (xs.take x.1))]) (fun x => x.1 ≤ n) (fun x => n - x.1) ((0, ga, gc)) ?_ ⟨lk0.trans (by first | ((rw [hst]; done); done) | with_reducible rfl | (congr 1; omega) | (simp; done) | (simp [*]; done)), (lk3 rfl).trans (by first | ((rw [hst]; done); done) | with_reducible rfl | (congr 1; omega) | (simp; done) | (simp [*]; done)), trivial⟩ ⟨(lk1 rfl), (lk2 rfl), (lk11 rfl), trivial⟩ (fun _ => Stars.sel (by repeat constructor)) ?_
 exact Nat.zero_le _
 rintro ⟨x, b, c⟩ ρ hk
 simp only [cA, nA]
 dsimp only at hk ⊢
 refine J.sr <| JL.rd (Rd.lss (t0 rfl) (t2 rfl)) <| JL.ns <| J.condD (t0 rfl) ?_ ?_
 intro hc3
 obtain ⟨v, hv⟩ : ∃ v, xs[x]? = some v := ⟨_, List.getElem?_eq_getElem (by omega)⟩
 have hx : (svals xs)[(x : Int).toNat]? = some [.slice v.a v.cells.length v.cap] := by simp [svals, hv, NdV.sval]
 have hst : (catC (xs.take (x + 1))).length = (catC (xs.take x)).length + v.cells.length := by rw [cat_step hv, List.length_append]
 have hct := cat_take xs (x + 1)
 refine J.skip <| At.next <| J.seq <| J.block <| J.sr <| JL.rd (Rd.sIdx Tryz.runUnderlying138 Tryz.sizeOf85 (t4 rfl) (t1 rfl) (by first | (apply SIn.row; (repeat constructor); done) | (apply SIn.rowR; (repeat constructor); done) | (apply SIn.bytes; (repeat constructor); done) | (apply hA; (repeat constructor); done)) (by first | (simp; done) | (simp; omega) | omega | (simp [*]; done) | (simp [*]; omega)) (by omega) (by omega)) ?_
 refine JL.rd (Rd.sLd Tryz.isAgg85 (t0 rfl) (by first | (apply SIn.row; (repeat constructor); done) | (apply SIn.rowR; (repeat constructor); done) | (apply SIn.bytes; (repeat constructor); done) | (apply hA; (repeat constructor); done)) hx rfl) ?_
 refine JL.as (t0 rfl) <| JL.n2 <| J.nodeGet (List.mem_of_getElem? hv) (by repeat constructor) ?_
 intro hvc
 refine J.region <| JL.mv (t5 rfl) <| JL.mv (t1 rfl) <| JL.ef (Ef.appS elt_85 (t1 rfl) (t0 rfl) (by repeat constructor) (by first | (apply SIn.row; (repeat constructor); done) | (apply SIn.rowR; (repeat constructor); done) | (apply SIn.bytes; (repeat constructor); done) | (apply hA; (repeat constructor); done)) (by first | (simp; done) | (simp; omega) | omega | (simp [*]; done) | (simp [*]; omega)) (by first | (simp; done) | (simp; omega) | omega | (simp [*]; done) | (simp [*]; omega)) (NdV.cells_one v) (by first | omega | (simp; omega)) (by first | (simp only [maxLen]; omega) | (simp [maxLen]; omega)) ?_)
 intro a4 c5
 refine JL.as (t0 rfl) <| JL.nil <| At.blkN <| At.next <| J.region <| JL.rd (Rd.add (t8 rfl) Ev.c (w64 (by omega) (by omega))) ?_
 refine JL.mv (t0 rfl) <| JL.nil ?_
 rw [← cat_step hv]
 refine At.again ((x + 1, a4, c5)) ?_ ?_ ⟨lk0.trans (by first | ((rw [hst]; done); done) | with_reducible rfl | (congr 1; omega) | (simp; done) | (simp [*]; done)), (lk2 rfl).trans (by first | ((rw [hst]; done); done) | with_reducible rfl | (congr 1; omega) | (simp; done) | (simp [*]; done)), trivial⟩ ⟨(lk12 rfl), (lk13 rfl), (lk14 rfl), trivial⟩ (fun _ => Stars.sel (by repeat constructor))
 show x + 1 ≤ n; omega
 show n - (x + 1) < n - x; omega
 intro hc3
 obtain rfl : n = x := by omega
 rw [List.take_of_length_le (by omega)]
 exact J.exit <| At.nextX <| At.loopX <| At.blkX <| At.next <| J.sr <| JL.mv (t2 rfl) <| JL.as (t0 rfl) <| JL.nr <| At.r ((b, c)) (trivial) (ResV.one rfl (t0 rfl)) rfl

set_option maxHeartbeats 400000 in
theorem igrow_any (n : Nat) (hn : n ≤ 1048576) :
    Fn Tryz.prog 102 [.slice none 0 0, .int .i64 (n : Int)] [] (X := Option Addr × Nat) (fun _ => True) (fun x => .slice x.1 0 x.2) (fun x => [row x.1 x.2 91 2 []]) := by
 refine Fn.mk' (n := 27) (l := [(0, .slice none 0 0), (1, .int .i64 (n : Int))]) (fn := Tryz.f102) Tryz.func102 (by kernel_rfl) rfl rfl (by simp) rfl ?_
 intro h0 w0
 refine J.sr <| JL.as Ev.c <| JL.n5 <| JL.mv (t2 rfl) <| JL.rd (Rd.lss (t0 rfl) Ev.c) <| JL.n2 <| J.condD (t0 rfl) ?_ ?_
 intro hc1
 omega
 intro hc1
 refine J.skip <| At.next <| J.seq <| J.sr <| JL.mv (t4 rfl) <| JL.mv (t4 rfl) <| JL.rd (Rd.capS Tryz.runUnderlying89 (t0 rfl)) <| JL.mv (t6 rfl) <| JL.rd (Rd.len Tryz.runUnderlying89 (t0 rfl)) <| JL.rd (Rd.sub (t2 rfl) (t0 rfl) (w64 (by omega) (by omega))) ?_
 refine JL.rd (Rd.sub (t5 rfl) (t0 rfl) (w64 (by omega) (by omega))) ?_
 refine JL.as (t0 rfl) <| JL.n4 <| JL.mv (t0 rfl) <| JL.rd (Rd.gtr (t0 rfl) Ev.c) <| JL.n2 <| J.condD (t0 rfl) ?_ ?_
 intro hc2
 refine J.region <| JL.mv (t13 rfl) <| JL.mv (t14 rfl) <| JL.rd (Rd.capS Tryz.runUnderlying89 (t0 rfl)) <| JL.rd (Rd.slToN (j := 0) Tryz.runUnderlying89 Tryz.sizeOf91 (t2 rfl) (t0 rfl) (Nat.zero_le _)) <| JL.mv (t6 rfl) <| JL.ef (Ef.appZ (n := n) elt_89 Tryz.underlying3 (t1 rfl) (by rw [show ((n : Int)) = ((n : Nat) : Int) from rfl]; exact (t0 rfl)) (by omega) (by omega) (by simp only [maxLen]; omega) ?_)
 intro ga gc hgc
 exact JL.mv (t19 rfl) <| JL.rd (Rd.len Tryz.runUnderlying89 (t0 rfl)) <| JL.rd (Rd.slToN (j := 0) Tryz.runUnderlying89 Tryz.sizeOf91 (t2 rfl) (t0 rfl) (Nat.zero_le _)) <| JL.as (t0 rfl) <| JL.n4 <| JL.mv (t0 rfl) <| JL.as (t0 rfl) <| JL.nr <| At.ret ((some ⟨ga, 0, none⟩, gc)) (trivial) (ResV.one rfl (t0 rfl)) rfl (fun _ s => Stars.sel (by repeat constructor) s)
 intro hc2
 exact J.k4 <| JL.mv (t13 rfl) <| JL.as (t0 rfl) <| JL.nr <| At.ret ((none, 0)) (trivial) (ResV.one rfl (t0 rfl)) rfl (fun _ s => row_nil 91 2 (Stars.sel (by repeat constructor) s))

set_option maxHeartbeats 400000 in
theorem icat_any (al : Option Addr) (n cl : Nat) (xs : List NdV) (hn : xs.length = n) (hnn : n ≤ 1048576) (ht : (catC xs).length ≤ 1048576) (A : Assn) (hA : ∀ {hs hs1 : List Assn}, Take A hs hs1 → SIn hs al 1 (svals xs)) :
    Fn Tryz.prog 84 [.slice al n cl] [A, nodesM xs] (X := Option Addr × Nat) (fun _ => True) (fun x => .slice x.1 (catC xs).length x.2) (fun x => [row x.1 x.2 91 2 (catC xs), A, nodesM xs]) := by
 refine Fn.mk' (n := 36) (l := [(0, .slice al n cl)]) (fn := Tryz.f84) Tryz.func84 (by kernel_rfl) rfl rfl (by simp) rfl ?_
 intro h0 w0
 refine J.sr <| JL.as Ev.c <| JL.n4 <| JL.as Ev.c <| JL.n5 <| JL.mv (t2 rfl) <| JL.rd (Rd.len Tryz.runUnderlying179 (t0 rfl)) <| JL.mv Ev.c <| JL.nb <| J.loop (X := Nat) (fun (x : Nat) => [(11, .int .i64 (x : Int)), (3, .int .i64 ((catC (xs.take x)).length : Int))]) (K := [(10, _), (9, _), (2, _), (0, _)]) (fun x => [A, nodesM xs]) (fun x => x ≤ n) (fun x => n - x) (0) ?_ ⟨lk0.trans (by first | ((rw [hst]; done); done) | with_reducible rfl | (congr 1; omega) | (simp; done) | (simp [*]; done)), (lk3 rfl).trans (by first | ((rw [hst]; done); done) | with_reducible rfl | (congr 1; omega) | (simp; done) | (simp [*]; done)), trivial⟩ ⟨(lk1 rfl), (lk2 rfl), (lk4 rfl), (lk5 rfl), trivial⟩ (fun _ => Stars.sel (by repeat constructor)) ?_
 exact Nat.zero_le _
 intro x ρ hp
 simp only [cA, nA]
 refine J.sr <| JL.rd (Rd.lss (t0 rfl) (t2 rfl)) <| JL.ns <| J.condD (t0 rfl) ?_ ?_
 intro hc1
 obtain ⟨v, hv⟩ : ∃ v, xs[x]? = some v := ⟨_, List.getElem?_eq_getElem (by omega)⟩
 have hx : (svals xs)[(x : Int).toNat]? = some [.slice v.a v.cells.length v.cap] := by simp [svals, hv, NdV.sval]
 have hst : (catC (xs.take (x + 1))).length = (catC (xs.take x)).length + v.cells.length := by rw [cat_step hv, List.length_append]
 have hct := cat_take xs (x + 1)
 refine J.skip <| At.next <| J.seq <| J.block <| J.sr <| JL.rd (Rd.sIdx Tryz.runUnderlying179 Tryz.sizeOf89 (t4 rfl) (t1 rfl) (by first | (apply SIn.row; (repeat constructor); done) | (apply SIn.rowR; (repeat constructor); done) | (apply SIn.bytes; (repeat constructor); done) | (apply hA; (repeat constructor); done)) (by first | (simp; done) | (simp; omega) | omega | (simp [*]; done) | (simp [*]; omega)) (by omega) (by omega)) ?_
 refine JL.rd (Rd.sLd Tryz.isAgg89 (t0 rfl) (by first | (apply SIn.row; (repeat constructor); done) | (apply SIn.rowR; (repeat constructor); done) | (apply SIn.bytes; (repeat constructor); done) | (apply hA; (repeat constructor); done)) hx rfl) ?_
 refine JL.as (t0 rfl) <| JL.n4 <| JL.mv (t5 rfl) <| JL.mv (t1 rfl) <| JL.rd (Rd.len Tryz.runUnderlying89 (t0 rfl)) <| JL.rd (Rd.add (t2 rfl) (t0 rfl) (w64 (by omega) (by omega))) ?_
 refine JL.as (t0 rfl) <| JL.n4 <| JL.mv (t0 rfl) <| JL.rd (Rd.lss (t0 rfl) Ev.c) <| JL.n2 <| J.condD (t0 rfl) ?_ ?_
 intro hc2
 omega
 intro hc2
 refine J.skip <| At.blkN <| At.next <| J.region <| JL.rd (Rd.add (t11 rfl) Ev.c (w64 (by omega) (by omega))) ?_
 refine JL.mv (t0 rfl) <| JL.nil <| At.again (x + 1) ?_ ?_ ⟨lk0.trans (by first | ((rw [hst]; done); done) | with_reducible rfl | (congr 1; omega) | (simp; done) | (simp [*]; done)), (lk4 rfl).trans (by first | ((rw [hst]; done); done) | with_reducible rfl | (congr 1; omega) | (simp; done) | (simp [*]; done)), trivial⟩ ⟨(lk15 rfl), (lk16 rfl), (lk17 rfl), (lk18 rfl), trivial⟩ (fun _ => Stars.sel (by repeat constructor))
 omega
 omega
 intro hc1
 obtain rfl : n = x := by omega
 rw [List.take_of_length_le (by omega)]
 refine J.exit <| At.nextX <| At.loopX <| At.blkX <| At.next <| J.sr <| JL.mv (t2 rfl) <| JL.ef (Ef.call (.cons Ev.c (.cons (t0 rfl) .nil)) (igrow_any (catC xs).length ht) (by repeat constructor) ?_)
 rintro ⟨ga, gc⟩ -
 simp only [cA, nA]
 refine JL.as (t0 rfl) <| JL.n5 <| JL.mv (t9 rfl) <| JL.rd (Rd.len Tryz.runUnderlying179 (t0 rfl)) <| JL.mv Ev.c <| JL.nb <| J.loop (X := Nat × Option Addr × Nat) (fun (x : Nat × Option Addr × Nat) => [(27, .int .i64 (x.1 : Int)), (6, .slice x.2.1 (catC (xs.take x.1)).length x.2.2)]) (K := [(26, _), (25, _), (2, _)]) (fun x => [A, nodesM xs, row x.2.1 x.2.2 91 2 (catC (xs.take x.1))]) (fun x => x.1 ≤ n) (fun x => n - x.1) ((0, ga, gc)) ?_ ⟨lk0.trans (by first | ((rw [hst]; done); done) | with_reducible rfl | (congr 1; omega) | (simp; done) | (simp [*]; done)), (lk3 rfl).trans (by first | ((rw [hst]; done); done) | with_reducible rfl | (congr 1; omega) | (simp; done) | (simp [*]; done)), trivial⟩ ⟨(lk1 rfl), (lk2 rfl), (lk11 rfl), trivial⟩ (fun _ => Stars.sel (by repeat constructor)) ?_
 exact Nat.zero_le _
 rintro ⟨x, b, c⟩ ρ hk
 simp only [cA, nA]
 dsimp only at hk ⊢
 refine J.sr <| JL.rd (Rd.lss (t0 rfl) (t2 rfl)) <| JL.ns <| J.condD (t0 rfl) ?_ ?_
 intro hc3
 obtain ⟨v, hv⟩ : ∃ v, xs[x]? = some v := ⟨_, List.getElem?_eq_getElem (by omega)⟩
 have hx : (svals xs)[(x : Int).toNat]? = some [.slice v.a v.cells.length v.cap] := by simp [svals, hv, NdV.sval]
 have hst : (catC (xs.take (x + 1))).length = (catC (xs.take x)).length + v.cells.length := by rw [cat_step hv, List.length_append]
 have hct := cat_take xs (x + 1)
 refine J.skip <| At.next <| J.seq <| J.block <| J.sr <| JL.rd (Rd.sIdx Tryz.runUnderlying179 Tryz.sizeOf89 (t4 rfl) (t1 rfl) (by first | (apply SIn.row; (repeat constructor); done) | (apply SIn.rowR; (repeat constructor); done) | (apply SIn.bytes; (repeat constructor); done) | (apply hA; (repeat constructor); done)) (by first | (simp; done) | (simp; omega) | omega | (simp [*]; done) | (simp [*]; omega)) (by omega) (by omega)) ?_
 refine JL.rd (Rd.sLd Tryz.isAgg89 (t0 rfl) (by first | (apply SIn.row; (repeat constructor); done) | (apply SIn.rowR; (repeat constructor); done) | (apply SIn.bytes; (repeat constructor); done) | (apply hA; (repeat constructor); done)) hx rfl) ?_
 refine JL.as (t0 rfl) <| JL.n2 <| J.nodeGet (List.mem_of_getElem? hv) (by repeat constructor) ?_
 intro hvc
 refine J.region <| JL.mv (t5 rfl) <| JL.mv (t1 rfl) <| JL.ef (Ef.appS elt_89 (t1 rfl) (t0 rfl) (by repeat constructor) (by first | (apply SIn.row; (repeat constructor); done) | (apply SIn.rowR; (repeat constructor); done) | (apply SIn.bytes; (repeat constructor); done) | (apply hA; (repeat constructor); done)) (by first | (simp; done) | (simp; omega) | omega | (simp [*]; done) | (simp [*]; omega)) (by first | (simp; done) | (simp; omega) | omega | (simp [*]; done) | (simp [*]; omega)) (NdV.cells_one v) (by first | omega | (simp; omega)) (by first | (simp only [maxLen]; omega) | (simp [maxLen]; omega)) ?_)
 intro a4 c5
 refine JL.as (t0 rfl) <| JL.nil <| At.blkN <| At.next <| J.region <| JL.rd (Rd.add (t8 rfl) Ev.c (w64 (by omega) (by omega))) ?_
 refine JL.mv (t0 rfl) <| JL.nil ?_
 rw [← cat_step hv]
 refine At.again ((x + 1, a4, c5)) ?_ ?_ ⟨lk0.trans (by first | ((rw [hst]; done); done) | with_reducible rfl | (congr 1; omega) | (simp; done) | (simp [*]; done)), (lk2 rfl).trans (by first | ((rw [hst]; done); done) | with_reducible rfl | (congr 1; omega) | (simp; done) | (simp [*]; done)), trivial⟩ ⟨(lk12 rfl), (lk13 rfl), (lk14 rfl), trivial⟩ (fun _ => Stars.sel (by repeat constructor))
 show x + 1 ≤ n; omega
 show n - (x + 1) < n - x; omega
 intro hc3
 obtain rfl : n = x := by omega
 rw [List.take_of_length_le (by omega)]
 exact J.exit <| At.nextX <| At.loopX <| At.blkX <| At.next <| J.sr <| JL.mv (t2 rfl) <| JL.as (t0 rfl) <| JL.nr <| At.r ((b, c)) (trivial) (ResV.one rfl (t0 rfl)) rfl
end Go.Proofs.YtbhladkbnleeoaaGreat

namespace Go.Proofs.YtbhladkbnleeoaaGreat

structure BSt where
  D : Dk
  s : Bs
  tk : List Nat
  gn : List Nat
def goneT (st : BSt) (b : Nat) : BSt := ⟨st.D, st.s, st.tk, st.gn ++ [b]⟩
def wrS (f k : Nat) (n : Nd) (st : BSt) : BSt := ⟨writeD st.D ((f + k : Nat) : Int) (ndEnc n), st.s.set k 2, st.tk ++ [f + k], st.gn⟩
def wrT (f : Nat) (n : Nd) (st : BSt) : BSt × Int × Nat :=
  match ((inL st.s [0])[(0 : Nat)]? : Option Nat) with
  | none => (st, 26, 0)
  | some k => (wrS f k n st, writeC st.D ((f + k : Nat) : Int) 512, f + k)
/-- The children of a node. -/
abbrev asK {h : Nat} (x : Tr (h + 1)) : List (Kt h) := x
def nrmK {h : Nat} : List (Kt h) → List (Kt h)
  | [] => []
  | p :: l => ([], p.2) :: l
def nrm : (h : Nat) → Tr h → Tr h
  | 0, l => l
  | _ + 1, l => nrmK (asK l)
def kidsT (f : Nat) {h : Nat} : List (Tr h) → BSt → BSt × Int × List (Kt h)
  | [], st => (st, 0, [])
  | t :: l, st =>
    if (wrT f (nd h t) st).2.1 ≠ 0 then ((wrT f (nd h t) st).1, (wrT f (nd h t) st).2.1, [])
    else if (kidsT f l (wrT f (nd h t) st).1).2.1 ≠ 0 then ((kidsT f l (wrT f (nd h t) st).1).1, (kidsT f l (wrT f (nd h t) st).1).2.1, [])
    else ((kidsT f l (wrT f (nd h t) st).1).1, 0, (fk h t, (wrT f (nd h t) st).2.2, nrm h t) :: (kidsT f l (wrT f (nd h t) st).1).2.2)
def small : (h : Nat) → Tr h → Bool
  | 0, _ => false
  | _ + 1, l => decide ((asK l).length = 1)
def smallL {h : Nat} : List (Tr h) → Bool
  | [t] => small h t
  | _ => false
def sizeT {h : Nat} (m : List (Kt h)) : Nat := sizeI (m.map kdp)
def packK {h : Nat} (l : List (Kt h)) : List (Tr (h + 1)) := packF sizeT 2 l.length l
def setK0 {h : Nat} (k : Bs) : List (Kt h) → List (Kt h)
  | [] => []
  | p :: l => (k, p.2) :: l
def keyAt {h : Nat} (x : List (Kt h)) (i : Nat) : Bs := (x[i]?.map (·.1)).getD []
def join2 : (h : Nat) → Tr h → Tr h → Bs → List (Tr h)
  | 0, _, _, _ => []
  | _ + 1, a, b, k => packK (asK a ++ setK0 k (asK b))
def endT (f : Nat) {h : Nat} (x : List (Kt h)) (l : List (Tr h)) (fr to : Nat) (st : BSt) : BSt × Int × List (Tr (h + 1)) :=
  if (kidsT f l st).2.1 ≠ 0 then ((kidsT f l st).1, (kidsT f l st).2.1, [])
  else ((kidsT f l st).1, 0, packK (x.take fr ++ setK0 (keyAt x fr) (kidsT f l st).2.2 ++ x.drop to))
def joinT (f : Nat) {h : Nat} (x : List (Kt h)) (i : Nat) (r : BSt × Int × List (Tr h)) : BSt × Int × List (Tr (h + 1)) :=
  match x[if i = 0 then 1 else i - 1]?, r.2.2 with
  | some o, [a] =>
    if r.1.D.down then (goneT r.1 o.2.1, 29, [])
    else if i = 0 then endT f x (join2 h a o.2.2 (keyAt x 1)) 0 2 (goneT r.1 o.2.1)
    else endT f x (join2 h o.2.2 a (keyAt x i)) (i - 1) (i + 1) (goneT r.1 o.2.1)
  | _, _ => (r.1, 0, [])
def replT (f : Nat) (key : Bs) (mk : List It) : (h : Nat) → Tr h → Nat → BSt → BSt × Int × List (Tr h)
  | 0, l, b, st => if st.D.down then (goneT st b, 29, []) else (goneT st b, 0, packL (edS mk key l))
  | h + 1, x, b, st =>
    if st.D.down then (goneT st b, 29, []) else
    match (asK x)[childF (asK x) key]? with
    | none => (goneT st b, 0, [])
    | some c =>
      if (replT f key mk h c.2.2 c.2.1 (goneT st b)).2.1 ≠ 0 then ((replT f key mk h c.2.2 c.2.1 (goneT st b)).1, (replT f key mk h c.2.2 c.2.1 (goneT st b)).2.1, [])
      else if smallL (replT f key mk h c.2.2 c.2.1 (goneT st b)).2.2 = true ∧ 1 < (asK x).length then joinT f (asK x) (childF (asK x) key) (replT f key mk h c.2.2 c.2.1 (goneT st b))
      else endT f (asK x) (replT f key mk h c.2.2 c.2.1 (goneT st b)).2.2 (childF (asK x) key) (childF (asK x) key + 1) (replT f key mk h c.2.2 c.2.1 (goneT st b)).1

/-! ### the blocks of a tree are not free, and hold it -/
def nf (f : Nat) (s : Bs) (b : Nat) : Prop := f ≤ b ∧ b - f < s.length ∧ s.getD (b - f) 0 ≠ 0
def Hd (f : Nat) (D : Dk) (s : Bs) : (h : Nat) → Tr h → Nat → Prop
  | 0, l, b => b < D.n ∧ nf f s b ∧ NdOk (.leaf l) ∧ D.vis b = ndEnc (.leaf l)
  | h + 1, x, b => b < D.n ∧ nf f s b ∧ NdOk (nd (h + 1) x) ∧ D.vis b = ndEnc (nd (h + 1) x) ∧ ∀ p ∈ (asK x), Hd f D s h p.2.2 p.2.1
theorem Hd.top {f D s} : ∀ {h : Nat} {t : Tr h} {b : Nat}, Hd f D s h t b → b < D.n ∧ nf f s b ∧ NdOk (nd h t) ∧ D.vis b = ndEnc (nd h t)
  | 0, _, _, h => h
  | _ + 1, _, _, h => ⟨h.1, h.2.1, h.2.2.1, h.2.2.2.1⟩

theorem visL_other (i j : Nat) (z : List UInt8) (h : j ≠ i) : ∀ (l : List (Nat × List UInt8)) (a : List UInt8), visL i a (l ++ [(j, z)]) = visL i a l := fun l a => by
  rw [visL_append]
  show (if j = i then z else _) = _
  rw [if_neg h]
theorem operated_visN (D : Dk) (i : Nat) : D.operated.vis i = D.vis i := by
  unfold Dk.vis Dk.operated
  split <;> rfl
theorem writeD_vis (D : Dk) (i j : Nat) (z : Bs) (h : j ≠ i) : (writeD D (j : Int) z).vis i = D.vis i := by
  unfold writeD
  split
  · rfl
  · split
    · rfl
    · split
      · exact operated_visN D i
      · rw [← operated_visN D i]
        unfold Dk.wrote Dk.vis
        simp only [Int.toNat_natCast]
        rw [visL_other _ _ _ h]
theorem writeD_n (D : Dk) (i : Int) (z : Bs) : (writeD D i z).n = D.n ∧ (writeD D i z).ops ≤ D.ops + 1 ∧ (writeD D i z).pend.length ≤ D.pend.length + 1 := by
  have ho : D.operated.ops ≤ D.ops + 1 := by
    unfold Dk.operated
    split
    · exact Nat.le_succ _
    · exact Nat.le_refl _
  unfold writeD
  split
  · exact ⟨rfl, Nat.le_succ _, Nat.le_succ _⟩
  · split
    · exact ⟨rfl, Nat.le_succ _, Nat.le_succ _⟩
    · split
      · exact ⟨operated_n D, ho, by rw [operated_pend]; exact Nat.le_succ _⟩
      · refine ⟨operated_n D, ho, ?_⟩
        show (D.operated.pend ++ [(i.toNat, z)]).length ≤ _
        rw [operated_pend, List.length_append]
        exact Nat.le_refl _
def frS (s : Bs) : Nat := s.countP (· == 0)
theorem frS_set {s : Bs} {k : Nat} (hk : k < s.length) (h : s.getD k 0 = 0) : frS (s.set k 2) + 1 = frS s := by
  unfold frS
  induction s generalizing k with
  | nil => simp at hk
  | cons a s ih =>
    cases k with
    | zero =>
      have ha : a = 0 := by simpa using h
      subst ha
      simp
    | succ k =>
      have := ih (k := k) (by simpa using hk) (by simpa using h)
      simp only [List.set_cons_succ, List.countP_cons]
      omega
theorem frS_le (s : Bs) : frS s ≤ s.length := List.countP_le_length
def StOk (st : BSt) : Prop := st.s.length ≤ 65536 ∧ frS st.s + st.tk.length ≤ 65536 ∧ st.D.ops ≤ 549755813888 + st.tk.length ∧ st.D.pend.length ≤ 524288 + st.tk.length
theorem free_mem {s : Bs} {k : Nat} (h : ((inL s [0])[(0 : Nat)]? : Option Nat) = some k) : k < s.length ∧ s.getD k 0 = 0 := by
  obtain ⟨h1, h2⟩ := selL_mem.1 (List.mem_of_getElem? h)
  refine ⟨h1, ?_⟩
  unfold inP at h2
  have := of_decide_eq_true h2
  simp only [List.mem_singleton] at this
  exact UInt8.toNat_inj.1 (by show _ = 0; omega)
/-- What is kept from one state to a later one. -/
structure Ext (f : Nat) (st st' : BSt) : Prop where
  len : st'.s.length = st.s.length
  n : st'.D.n = st.D.n
  hd : ∀ {h : Nat} {t : Tr h} {b : Nat}, Hd f st.D st.s h t b → Hd f st'.D st'.s h t b
  ok : StOk st → StOk st'
theorem Ext.refl (f : Nat) (st : BSt) : Ext f st st := ⟨rfl, rfl, fun h => h, fun h => h⟩
theorem Ext.trans {f a b c} (h1 : Ext f a b) (h2 : Ext f b c) : Ext f a c := ⟨h2.len.trans h1.len, h2.n.trans h1.n, fun h => h2.hd (h1.hd h), fun h => h2.ok (h1.ok h)⟩
theorem Ext.gone (f : Nat) (st : BSt) (b : Nat) : Ext f st (goneT st b) := ⟨rfl, rfl, fun h => h, fun h => h⟩
theorem Ext.wr {f k : Nat} {n : Nd} {st : BSt} (hk : k < st.s.length) (h0 : st.s.getD k 0 = 0) : Ext f st (wrS f k n st) := by
  have hn := writeD_n st.D ((f + k : Nat) : Int) (ndEnc n)
  have hfr := frS_set hk h0
  refine ⟨List.length_set, hn.1, ?_, fun ⟨h1, h2, h3, h4⟩ => ⟨by show (st.s.set k 2).length ≤ _; rw [List.length_set]; exact h1, ?_, ?_, ?_⟩⟩
  · have hb : ∀ {b : Nat}, nf f st.s b → b ≠ f + k ∧ nf f (st.s.set k 2) b := fun {b} ⟨a1, a2, a3⟩ => by
      have hne : b - f ≠ k := fun e => a3 (by rw [e]; exact h0)
      refine ⟨fun e => hne (by omega), a1, by rw [List.length_set]; exact a2, ?_⟩
      rw [List.getD_eq_getElem?_getD, List.getElem?_set_ne (fun e => hne e.symm), ← List.getD_eq_getElem?_getD]
      exact a3
    intro h
    induction h with
    | zero =>
      intro t b ⟨c1, c2, c3, c4⟩
      exact ⟨by show b < (writeD ..).n; rw [hn.1]; exact c1, (hb c2).2, c3, (writeD_vis _ _ _ _ (hb c2).1.symm).trans c4⟩
    | succ h ih =>
      intro t b ⟨c1, c2, c3, c4, c5⟩
      exact ⟨by show b < (writeD ..).n; rw [hn.1]; exact c1, (hb c2).2, c3, (writeD_vis _ _ _ _ (hb c2).1.symm).trans c4, fun p hp => ih (c5 p hp)⟩
  · show frS (st.s.set k 2) + (st.tk ++ [f + k]).length ≤ _
    rw [List.length_append, List.length_singleton]; omega
  · show (writeD ..).ops ≤ _ + (st.tk ++ [f + k]).length
    rw [List.length_append, List.length_singleton]; omega
  · show (writeD ..).pend.length ≤ _ + (st.tk ++ [f + k]).length
    rw [List.length_append, List.length_singleton]; omega
theorem wrT_ext (f : Nat) (n : Nd) (st : BSt) : Ext f st (wrT f n st).1 := by
  unfold wrT
  split
  · exact Ext.refl _ _
  · rename_i k hk
    exact Ext.wr (free_mem hk).1 (free_mem hk).2
theorem wrT_gn (f : Nat) (n : Nd) (st : BSt) : (wrT f n st).1.gn = st.gn := by
  unfold wrT
  split <;> rfl
theorem wrT_blk {f : Nat} {n : Nd} {st : BSt} (hf : f ≤ 1073741824) (hs : StOk st) : (wrT f n st).2.2 < 2147483648 := by
  unfold wrT
  split
  · show 0 < 2147483648; omega
  · rename_i k hk
    have := (free_mem hk).1
    have := hs.1
    show f + k < _
    omega

/-- A node that may be written. -/
def NdG : Nd → Prop
  | .leaf l => l ≠ [] ∧ (∀ p ∈ l, itOk p) ∧ sizeL l ≤ 505
  | .inner l => l ≠ [] ∧ (∀ p ∈ l, kdOk p) ∧ sizeI l ≤ 505
def TsG {h : Nat} (l : List (Tr h)) : Prop := ∀ t ∈ l, NdG (nd h t)
theorem NdOk.g {n : Nd} (h : NdOk n) : NdG n := by
  cases n with
  | leaf l => exact ⟨h.1, h.2.1, h.2.2.2⟩
  | inner l =>
    obtain ⟨b, t, rfl, h1, h2, h3, h4, h5⟩ := h
    refine ⟨by simp, fun p hp => ?_, h5⟩
    rcases List.mem_cons.1 hp with rfl | hp
    · exact ⟨Nat.zero_le _, h2⟩
    · exact (h3 p hp).2
theorem sizeL_len : ∀ {l : List It}, (∀ p ∈ l, itOk p) → 4 * l.length ≤ sizeL l := by
  intro l
  induction l with
  | nil => intro _; exact Nat.zero_le _
  | cons p l ih =>
    intro h
    have h1 := ih fun q hq => h q (List.mem_cons_of_mem _ hq)
    have h2 := (h p (List.mem_cons_self ..)).1
    rw [sizeL_cons, List.length_cons]; omega
theorem sizeI_len : ∀ (l : List Kd), 5 * l.length ≤ sizeI l + 1 := by
  intro l
  cases l with
  | nil => exact Nat.zero_le _
  | cons p l =>
    have : ∀ l : List Kd, 5 * l.length ≤ (l.flatMap kidB).length := by
      intro l
      induction l with
      | nil => exact Nat.zero_le _
      | cons p l ih => rw [sizeK_cons, List.length_cons]; omega
    have := this l
    rw [sizeI_cons, List.length_cons]
    omega
theorem NdG.len {n : Nd} (h : NdG n) : n.count ≤ 126 := by
  cases n with
  | leaf l => have := sizeL_len h.2.1; have := h.2.2; show l.length ≤ _; omega
  | inner l => have := sizeI_len l; have := h.2.2; show l.length ≤ _; omega
theorem fk_len {h : Nat} {t : Tr h} (ht : NdG (nd h t)) : (fk h t).length ≤ 112 := by
  cases h with
  | zero =>
    obtain ⟨h1, h2, _⟩ := ht
    match t, h1, h2 with
    | p :: l, _, h2 => exact (h2 p (List.mem_cons_self ..)).2.1
  | succ h =>
    obtain ⟨h1, h2, _⟩ := ht
    match t, h1, h2 with
    | p :: l, _, h2 => exact (h2 (kdp p) (List.mem_cons_self ..)).1
theorem kidsT_ok {f h : Nat} (hf : f ≤ 1073741824) : ∀ (l : List (Tr h)) (st : BSt), TsG l → StOk st →
    Ext f st (kidsT f l st).1 ∧ (kidsT f l st).1.gn = st.gn ∧ (∀ p ∈ (kidsT f l st).2.2, kdOk (kdp p)) ∧ ((kidsT f l st).2.2.length ≤ l.length) ∧ ((kidsT f l st).2.1 = 0 → (kidsT f l st).2.2.length = l.length) := by
  intro l
  induction l with
  | nil => intro st _ _; exact ⟨Ext.refl _ _, rfl, (by intro p hp; cases hp), Nat.le_refl _, fun _ => rfl⟩
  | cons t l ih =>
    intro st hl hs
    have e1 := wrT_ext f (nd h t) st
    have e2 := wrT_gn f (nd h t) st
    have e3 := wrT_blk (n := nd h t) hf hs
    obtain ⟨i1, i2, i3, i4, i5⟩ := ih (wrT f (nd h t) st).1 (fun u hu => hl u (List.mem_cons_of_mem _ hu)) (e1.ok hs)
    unfold kidsT
    split
    · rename_i hne
      exact ⟨e1, e2, (by intro p hp; cases hp), Nat.zero_le _, fun h => absurd h hne⟩
    · split
      · rename_i hne
        exact ⟨e1.trans i1, i2.trans e2, (by intro p hp; cases hp), Nat.zero_le _, fun h => absurd h hne⟩
      · rename_i he
        refine ⟨e1.trans i1, i2.trans e2, fun p hp => ?_, by simpa using i4, fun _ => ?_⟩
        · rcases List.mem_cons.1 hp with rfl | hp
          · exact ⟨fk_len (hl t (List.mem_cons_self ..)), e3⟩
          · exact i3 p hp
        · simp [i5 (by simpa using he)]
theorem packF_map {α β : Type} (g : α → β) (size : List β → Nat) (least : Nat) : ∀ (n : Nat) (l : List α), (packF (fun m => size (m.map g)) least n l).map (List.map g) = packF size least n (l.map g) := by
  intro n
  induction n with
  | zero => intro l; rfl
  | succ n ih =>
    intro l
    unfold packF
    simp only [List.length_map]
    split
    · rfl
    · split
      · rfl
      · rw [List.map_append, ih, ih, List.map_take, List.map_drop]
        have : cost (fun m => size (m.map g)) l = cost size (l.map g) := by
          funext i
          simp [cost, List.map_take, List.map_drop]
        rw [this]
theorem packK_map {h : Nat} (l : List (Kt h)) : (packK l).map (nd (h + 1)) = (packF sizeI 2 l.length (l.map kdp)).map Nd.inner := by
  have := packF_map (kdp (h := h)) sizeI 2 l.length l
  rw [← this, List.map_map]
  rfl
theorem packF_mem {α : Type} {ok : α → Prop} {size : List α → Nat} {least : Nat} (hd : Dividable ok size least) {n : Nat} {l : List α} (h1 : ∀ a ∈ l, ok a) (h2 : l.length ≤ n) {p : List α} (hp : p ∈ packF size least n l) : ∀ a ∈ p, a ∈ l := fun a ha => by
  have := packF_flat hd n l h1 h2
  rw [← this]
  exact List.mem_flatten.2 ⟨p, hp, ha⟩
theorem divT {h : Nat} : Dividable (fun p : Kt h => kdOk (kdp p)) sizeT 2 := by
  refine ⟨by omega, fun l hl hs => ?_⟩
  have := divI.2 (l.map kdp) (fun a ha => by obtain ⟨p, hp, rfl⟩ := List.mem_map.1 ha; exact hl p hp) hs
  simpa using this
theorem packL_ok {l : List It} (h : ∀ p ∈ l, itOk p) : TsG (h := 0) (packL l) ∧ (packL l).length ≤ l.length := by
  refine ⟨fun t ht => ?_, packF_len divL _ _ h⟩
  have h1 := packF_parts _ _ t ht
  exact ⟨h1.1, fun p hp => h p (packF_mem divL h (Nat.le_refl _) ht p hp), h1.2⟩
theorem packK_ok {h : Nat} {l : List (Kt h)} (hl : ∀ p ∈ l, kdOk (kdp p)) : TsG (packK l) ∧ (packK l).length ≤ l.length := by
  refine ⟨fun t ht => ?_, packF_len divT _ _ hl⟩
  have h1 := packF_parts _ _ t ht
  refine ⟨fun e => h1.1 (List.map_eq_nil_iff.1 e), fun p hp => ?_, h1.2⟩
  obtain ⟨q, hq, rfl⟩ := List.mem_map.1 hp
  exact hl q (packF_mem divT hl (Nat.le_refl _) ht q hq)
end Go.Proofs.YtbhladkbnleeoaaGreat

namespace Go.Proofs.YtbhladkbnleeoaaGreat
set_option maxRecDepth 100000
attribute [local irreducible] J JL At Rd Ef DNew DCar DRun Then RetQ LoopQ

set_option maxHeartbeats 400000 in
theorem read_cap (d : Nat) (D : Dk) (i : Int) :
    Fn Tryz.prog 58 [.pointer (some ⟨d, 0, none⟩), .int .i64 i] [dk d D] (X := Option Addr × Nat) (fun x => x.2 = (readB D i).length) (fun x => .tuple #[.slice x.1 (readB D i).length x.2, .int .i64 (reachC D i)]) (fun x => [dk d D, bytesA x.1 x.2 (readB D i)]) := by
 refine Fn.mk' (n := 18) (l := [(0, .pointer (some ⟨d, 0, none⟩)), (1, .int .i64 i)]) (fn := Tryz.f58) Tryz.func58 (by kernel_rfl) rfl rfl (by simp) rfl ?_
 intro h0 w0
 refine J.sr <| JL.as Ev.c <| JL.as Ev.c <| JL.n5 <| JL.mv (t2 rfl) <| JL.mv (t4 rfl) <| JL.ef (Ef.call (.cons (t1 rfl) (.cons (t0 rfl) .nil)) (reach_any d D i) (by repeat constructor) ?_)
 rintro - -
 simp only [cA, nA]
 refine JL.as (t0 rfl) <| JL.n4 <| JL.mv (t0 rfl) <| JL.rd (Rd.neq (t0 rfl) Ev.c) <| JL.n2 <| J.condD (t0 rfl) ?_ ?_
 intro hc1
 exact J.sr <| JL.mv (t2 rfl) <| JL.as Ev.c <| JL.as (t1 rfl) <| JL.nr <| At.nextR <| At.ret ((none, 0)) ((by simp [readB, *])) (ResV.two rfl (t1 rfl) (t0 rfl)) (by simp [readB, *]) (fun _ s => by have e : readB D i = [] := (by simp [readB, *]); show Stars [dk d D, bytesA none 0 (readB D i)] _; rw [e]; exact Stars.swap (bytes_nil s))
 intro hc1
 have hr : reachC D i = 0 := by simpa using hc1
 obtain ⟨hdn, hi0, hin⟩ := reach_zero hr
 obtain ⟨k, rfl⟩ : ∃ k : Nat, i = (k : Int) := ⟨i.toNat, by omega⟩
 have hk : k < D.n := by omega
 refine J.know (fun h s => dk_wf s) ?_
 intro hwf
 have hvl := hwf.vis k
 refine J.k4 <| JL.mv (t8 rfl) <| JL.mv (t10 rfl) <| JL.ef (Ef.call (.cons (t1 rfl) (.cons (t0 rfl) .nil)) (visible_any d D k hk) (by repeat constructor) ?_)
 rintro - -
 simp only [cA, nA]
 refine JL.ef (Ef.alloc zero0 rfl ?_)
 intro b2
 refine JL.ef0 (Ef.stB Tryz.sizeOf108 (t0 rfl) (t1 rfl) (by repeat constructor) (by repeat constructor) (by first | rfl | assumption | simp_all) (by first | rfl | assumption | simp_all) (by first | exact bv_one _ | exact cons_one rfl (bv_one _) | (simp [Value.oneCell']; done) | (simp [Value.oneCell', str]; done)) (by decide) ?_)
 refine JL.n4 <| JL.rd (Rd.sliceAll Tryz.runUnderlying108 Tryz.sizeOf5 (t0 rfl) (by decide)) ?_
 exact JL.as (t0 rfl) <| JL.as Ev.c <| JL.nr <| At.ret ((some ⟨b2, 0, none⟩, 512)) ((by simp [readB, *])) (ResV.two rfl (t1 rfl) (t0 rfl)) (by simp [readB, *]) (fun _ s => by have e : readB D k = D.vis k := (by simp [readB, *]); show Stars [dk d D, bytesA (some ⟨b2, 0, none⟩) 512 (readB D k)] _; rw [e]; have s1 := Stars.sel (pre := [pts b2 (.cells (bv (D.vis k)).toArray 108), dk d D]) (by repeat constructor) s; exact Stars.swap (bytes_all hvl (by decide) s1))

def rdC (D : Dk) : Int := if D.down then 29 else 0
theorem reach_in {D : Dk} {b : Nat} (h : b < D.n) : reachC D (b : Int) = rdC D := by
  unfold reachC rdC
  split
  · rfl
  · rw [if_neg (by omega)]
theorem dec_nd (a : Option Addr) (n : Nd) (hn : NdOk n) : Fn Tryz.prog 59 [.slice a 512 512] [rowR a 1 (b1s (ndEnc n))] (X := NdV) (fun x => x.n = n) (fun x => .tuple #[x.val, .int .i64 0]) (fun x => [nodesM [x]]) := by
  have hfit := hn.fits
  have hcnt := hn.count
  cases n with
  | leaf l =>
    obtain ⟨h1, h2, h3, h4⟩ := hn
    refine (ldec_ok a 512 l (Nat.le_refl _) (by decide) hfit hcnt h1 h2 h3).cvx (fun x => ⟨x.1, x.2, .leaf l⟩) (fun _ _ => rfl) (fun _ s => s) (fun _ _ => rfl) fun x _ hx s => ?_
    exact nodesM_one (x := ⟨x.1, x.2, .leaf l⟩) (by show (l.map itc).length ≤ x.2; simpa using hx) s
  | inner l =>
    obtain ⟨b, t, rfl, h1, h2, h3, h4, h5⟩ := hn
    have hl2 : 2 ≤ (([], b) :: t : List Kd).length := by have := List.length_pos_iff.2 h1; simp; omega
    refine (idec_ok a 512 (([], b) :: t) (Nat.le_refl _) (by decide) hfit hcnt hl2 (fun q hq => ?_) (fun q hq => by simp at hq; rw [← hq]) (fun i q hi hq => ?_) (fun i j q r hi hij hq hr => ?_)).cvx (fun x => ⟨x.1, x.2, .inner (([], b) :: t)⟩) (fun _ _ => rfl) (fun _ s => s) (fun _ _ => rfl) fun x _ hx s => ?_
    · rcases List.mem_cons.1 hq with rfl | hq
      · exact ⟨Nat.zero_le _, h2⟩
      · exact (h3 q hq).2
    · obtain ⟨i, rfl⟩ : ∃ j, i = j + 1 := ⟨i - 1, by omega⟩
      exact (h3 q (List.mem_of_getElem? (by simpa using hq))).1
    · obtain ⟨i, rfl⟩ : ∃ j, i = j + 1 := ⟨i - 1, by omega⟩
      obtain ⟨j, rfl⟩ : ∃ k, j = k + 1 := ⟨j - 1, by omega⟩
      exact pair_get h4 (by omega : i < j) (by simpa using hq) (by simpa using hr)
    · exact nodesM_one (x := ⟨x.1, x.2, .inner (([], b) :: t)⟩) (by show ((([], b) :: t : List Kd).map kdc).length ≤ x.2; rw [List.length_map]; exact hx) s

set_option maxHeartbeats 400000 in
theorem tread_any (t d m : Nat) (root : Int) (D : Dk) (b : Nat) (n : Nd) (hb : b < D.n) (hn : NdOk n) (hv : D.vis b = ndEnc n) :
    Fn Tryz.prog 30 [.pointer (some ⟨t, 0, none⟩), .int .i64 (b : Int)] [pts t (.cells [.pointer (some ⟨d, 0, none⟩), .pointer (some ⟨m, 0, none⟩), .int .i64 root].toArray 68), dk d D] (X := NdV) (fun x => D.down = false → x.n = n) (fun x => .tuple #[if D.down = true then .nilIface else x.val, .int .i64 (rdC D)]) (fun x => [nodesM [x], pts t (.cells [.pointer (some ⟨d, 0, none⟩), .pointer (some ⟨m, 0, none⟩), .int .i64 root].toArray 68), dk d D]) := by
 refine Fn.mk' (n := 24) (l := [(0, .pointer (some ⟨t, 0, none⟩)), (1, .int .i64 (b : Int))]) (fn := Tryz.f30) Tryz.func30 (by kernel_rfl) rfl rfl (by simp) rfl ?_
 intro h0 w0
 refine J.sr <| JL.as Ev.c <| JL.as Ev.c <| JL.ns ?_
 have hrb := reach_in hb
 refine J.region <| JL.mv (t2 rfl) <| JL.rd (Rd.nil (t0 rfl)) <| JL.rd ((by first | exact Rd.fld0 fld_68_0 (t0 rfl) | exact Rd.fldz fld_68_0 (t0 rfl))) ?_
 refine JL.rd (Rd.ldN Tryz.isAgg24 (t0 rfl) (by repeat constructor) (by repeat constructor)) ?_
 refine JL.mv (t7 rfl) <| JL.ef (Ef.call (.cons (t1 rfl) (.cons (t0 rfl) .nil)) (read_cap d D (b : Int)) (by repeat constructor) ?_)
 rintro ⟨ra, rc⟩ hrc
 simp only [cA, nA]
 refine JL.mv (t0 rfl) <| JL.e (t0 rfl) <| JL.e (t1 rfl) <| JL.as (t1 rfl) <| JL.as (t1 rfl) <| JL.n5 <| JL.mv (t0 rfl) <| JL.rd (Rd.neq (t0 rfl) Ev.c) <| JL.n2 <| J.condD (t0 rfl) ?_ ?_
 intro hc1
 have hdn : D.down = true := by
   by_cases hd : D.down = true
   · exact hd
   · exfalso; exact hc1 (by rw [hrb]; unfold rdC; rw [if_neg hd])
 exact J.sr <| JL.mv (t2 rfl) <| JL.as Ev.c <| JL.as (t1 rfl) <| JL.nr <| At.nextR <| At.ret (⟨none, 0, .leaf []⟩) (fun h => absurd hdn (by rw [h]; decide)) (ResV.two rfl (t1 rfl) (t0 rfl)) (by rw [hrb]; unfold rdC; rw [if_pos hdn, if_pos hdn]) (fun _ st => nodesM_one (x := ⟨none, 0, .leaf []⟩) (Nat.le_refl _) (rowR_nil none 2 (Stars.sel (by repeat constructor) st)))
 intro hc1
 have hdn : D.down = false := by
   by_cases hd : D.down = true
   · exfalso; exact hc1 (by rw [hrb]; unfold rdC; rw [if_pos hd]; decide)
   · simpa using hd
 have hrb0 : reachC D (b : Int) = 0 := by rw [hrb]; unfold rdC; rw [hdn]; rfl
 have hre : readB D (b : Int) = ndEnc n := by unfold readB; rw [if_pos hrb0]; exact hv
 have hel := ndEnc_length hn.fits
 rw [hre, hel] at hrc
 rw [hre, hel]
 obtain rfl : rc = 512 := hrc
 refine J.openBytes (by repeat constructor) ?_
 intro eb
 refine J.demote .here <| J.k4 <| JL.mv (t3 rfl) <| JL.ef (Ef.call (.cons (t0 rfl) .nil) (dec_nd ra n hn) (by repeat constructor) ?_)
 rintro x hx
 simp only [cA, nA]
 exact JL.e (t0 rfl) <| JL.e (t1 rfl) <| JL.as (t1 rfl) <| JL.as (t1 rfl) <| JL.nr <| At.ret (x) (fun _ => hx) (ResV.two rfl (t1 rfl) (t0 rfl)) (by unfold rdC; rw [if_neg (by rw [hdn]; decide), if_neg (by rw [hdn]; decide)]) (fun _ st => Stars.sel (by repeat constructor) st)
end Go.Proofs.YtbhladkbnleeoaaGreat

namespace Go.Proofs.YtbhladkbnleeoaaGreat
theorem fld_68_1 : Fld Tryz.prog 68 1 1 := fun a w => by kernel_rfl
theorem fld_68_2 : Fld Tryz.prog 68 2 2 := fun a w => by kernel_rfl
theorem fld_131_0 : Fld Tryz.prog 131 0 0 := fun a w => by kernel_rfl
theorem fld_131_1 : Fld Tryz.prog 131 1 1 := fun a w => by kernel_rfl
theorem fld_131_2 : Fld Tryz.prog 131 2 2 := fun a w => by kernel_rfl
theorem bld_131 : Bld Tryz.prog 131 [.pointer none, .slice none 0 0, .slice none 0 0] [(0, 1), (1, 1), (2, 1)] := Bld.mk Tryz.zeroValue131 rfl Tryz.runUnderlying131 (fun w => by kernel_rfl)
end Go.Proofs.YtbhladkbnleeoaaGreat

namespace Go.Proofs.YtbhladkbnleeoaaGreat
set_option maxRecDepth 100000
attribute [local irreducible] J JL At Rd Ef DNew DCar DRun Then RetQ LoopQ

/-- A list of blocks as it lies in memory. -/
def natV (l : List Nat) : List (List Value) := l.map fun (i : Nat) => [Value.int .i64 (i : Int)]
@[simp] theorem natV_length (l : List Nat) : (natV l).length = l.length := List.length_map _
theorem natV_snoc (l : List Nat) (i : Nat) : natV l ++ [[Value.int .i64 (i : Int)]] = natV (l ++ [i]) := by simp [natV]
/-- The block c is a change under way of the tree t: what was taken, and what is gone. -/
@[irreducible] def chA (c t : Nat) (tk gn : List Nat) : Assn := fun h => ∃ x : (Option Addr × Nat) × Option Addr × Nat, True ∧ Stars [pts c (.cells [.pointer (some ⟨t, 0, none⟩), .slice x.1.1 tk.length x.1.2, .slice x.2.1 gn.length x.2.2].toArray 131), row x.1.1 x.1.2 3 1 (natV tk), row x.2.1 x.2.2 3 1 (natV gn)] h
theorem chA_open {c t : Nat} {tk gn : List Nat} (h : Frag) (a : chA c t tk gn h) : ∃ x : (Option Addr × Nat) × Option Addr × Nat, True ∧ Stars [pts c (.cells [.pointer (some ⟨t, 0, none⟩), .slice x.1.1 tk.length x.1.2, .slice x.2.1 gn.length x.2.2].toArray 131), row x.1.1 x.1.2 3 1 (natV tk), row x.2.1 x.2.2 3 1 (natV gn)] h := by
  unfold chA at a; exact a
theorem chA_shut {c t c1 c2 : Nat} {a1 a2 : Option Addr} {tk gn : List Nat} {l : List Assn} {h : Frag} (st : Stars (pts c (.cells [.pointer (some ⟨t, 0, none⟩), .slice a1 tk.length c1, .slice a2 gn.length c2].toArray 131) :: row a1 c1 3 1 (natV tk) :: row a2 c2 3 1 (natV gn) :: l) h) : Stars (chA c t tk gn :: l) h :=
  Stars.shut (A := chA c t tk gn) (L := [pts c (.cells [Value.pointer (some ⟨t, 0, none⟩), .slice a1 tk.length c1, .slice a2 gn.length c2].toArray 131), row a1 c1 3 1 (natV tk), row a2 c2 3 1 (natV gn)]) (fun h s => by unfold chA; exact ⟨((a1, c1), a2, c2), trivial, s⟩) st
theorem chA_took {c t c1 c2 b : Nat} {a1 a2 : Option Addr} {tk gn : List Nat} {l : List Assn} {h : Frag} (st : Stars (pts c (.cells [.pointer (some ⟨t, 0, none⟩), .slice a1 (tk.length + 1) c1, .slice a2 gn.length c2].toArray 131) :: row a1 c1 3 1 (natV tk ++ [[.int .i64 (b : Int)]]) :: row a2 c2 3 1 (natV gn) :: l) h) : Stars (chA c t (tk ++ [b]) gn :: l) h := by
  have e : tk.length + 1 = (tk ++ [b]).length := by simp
  rw [natV_snoc, e] at st
  exact chA_shut st
theorem chA_gone {c t c1 c2 b : Nat} {a1 a2 : Option Addr} {tk gn : List Nat} {l : List Assn} {h : Frag} (st : Stars (pts c (.cells [.pointer (some ⟨t, 0, none⟩), .slice a1 tk.length c1, .slice a2 (gn.length + 1) c2].toArray 131) :: row a1 c1 3 1 (natV tk) :: row a2 c2 3 1 (natV gn ++ [[.int .i64 (b : Int)]]) :: l) h) : Stars (chA c t tk (gn ++ [b]) :: l) h := by
  have e : gn.length + 1 = (gn ++ [b]).length := by simp
  rw [natV_snoc, e] at st
  exact chA_shut st
theorem write_len (d : Nat) (D : Dk) (i : Int) (a : Option Addr) (n cap : Nat) (s : List UInt8) (hn : s.length = n) (ho : D.ops < 1099511627776) (hp : D.pend.length < 1048576) :
    Fn Tryz.prog 113 [.pointer (some ⟨d, 0, none⟩), .int .i64 i, .slice a n cap] [dk d D, bytesA a cap s] (X := Unit) (fun _ => True) (fun _ => .int .i64 (writeC D i n)) (fun _ => [dk d (writeD D i s), bytesA a cap s]) := by
  subst hn
  exact write_any d D i a cap s ho hp
def fkN : Nd → Bs
  | .leaf l => (l.head?.map (·.1)).getD []
  | .inner l => (l.head?.map (·.1)).getD []
theorem fk_nd (h : Nat) (t : Tr h) : fk h t = fkN (nd h t) := by
  cases h with
  | zero => rfl
  | succ h => cases t <;> rfl
theorem wr_none {f : Nat} {n : Nd} {st : BSt} (h : takeC st.s ≠ 0) : wrT f n st = (st, takeC st.s, 0) ∧ takeS st.s = st.s := by
  unfold takeC at h
  unfold wrT takeC takeS
  split at h
  · exact absurd rfl h
  · rename_i h2
    rw [h2]
    exact ⟨rfl, rfl⟩
theorem wr_some {f : Nat} {n : Nd} {st : BSt} (h : takeC st.s = 0) : ∃ k, wrT f n st = (wrS f k n st, writeC st.D ((f + k : Nat) : Int) 512, f + k) ∧ takeS st.s = st.s.set k 2 ∧ takeV f st.s = ((f + k : Nat) : Int) ∧ k < st.s.length ∧ st.s.getD k 0 = 0 := by
  unfold takeC at h
  split at h
  · rename_i k hk
    refine ⟨k, ?_, ?_, ?_, free_mem hk⟩
    · unfold wrT; rw [hk]
    · unfold takeS; rw [hk]
    · unfold takeV; rw [hk]; rfl
  · cases h

set_option maxHeartbeats 400000 in
theorem copen_any (c t d m : Nat) (root : Int) (tk gn : List Nat) (D : Dk) (b : Nat) (n : Nd) (hg : gn.length < 1048576) (hb : b < D.n) (hn : NdOk n) (hv : D.vis b = ndEnc n) :
    Fn Tryz.prog 83 [.pointer (some ⟨c, 0, none⟩), .int .i64 (b : Int)] [chA c t tk gn, pts t (.cells [.pointer (some ⟨d, 0, none⟩), .pointer (some ⟨m, 0, none⟩), .int .i64 root].toArray 68), dk d D] (X := NdV) (fun x => D.down = false → x.n = n) (fun x => .tuple #[if D.down = true then .nilIface else x.val, .int .i64 (rdC D)]) (fun x => [nodesM [x], chA c t tk (gn ++ [b]), pts t (.cells [.pointer (some ⟨d, 0, none⟩), .pointer (some ⟨m, 0, none⟩), .int .i64 root].toArray 68), dk d D]) := by
 refine Fn.mk' (n := 24) (l := [(0, .pointer (some ⟨c, 0, none⟩)), (1, .int .i64 (b : Int))]) (fn := Tryz.f83) Tryz.func83 (by kernel_rfl) rfl rfl (by simp) rfl ?_
 intro h0 w0
 refine J.openT (by repeat constructor) chA_open ?_
 rintro ⟨⟨a1, c1⟩, a2, c2⟩ -
 dsimp only
 simp only [cA, nA]
 refine J.sr <| JL.as Ev.c <| JL.as Ev.c <| JL.n4 <| JL.mv (t2 rfl) <| JL.mv (t3 rfl) <| JL.rd (Rd.nil (t0 rfl)) <| JL.rd ((by first | exact Rd.fld0 fld_131_2 (t0 rfl) | exact Rd.fld fld_131_2 (t0 rfl))) ?_
 refine JL.rd (Rd.ldN Tryz.isAgg34 (t0 rfl) (by repeat constructor) (by repeat constructor)) ?_
 refine JL.mv (t8 rfl) <| JL.ef (Ef.slit1 elt_34 (t0 rfl) rfl rfl (by decide) ?_)
 intro b1
 refine JL.ef (Ef.appS elt_34 (t2 rfl) (t0 rfl) (by repeat constructor) (Src.i (by repeat constructor)) (by first | (simp; done) | (simp; omega) | omega | (simp [*]; done) | (simp [*]; omega)) (by first | (simp; done) | (simp; omega) | omega | (simp [*]; done) | (simp [*]; omega)) (by simp [Value.oneCell']) (by first | omega | (simp; omega)) (by first | (simp only [maxLen]; omega) | (simp [maxLen]; omega)) ?_)
 intro a2 c3
 refine JL.rd (Rd.nil (t7 rfl)) <| JL.rd ((by first | exact Rd.fld0 fld_131_2 (t0 rfl) | exact Rd.fld fld_131_2 (t0 rfl))) ?_
 refine JL.ef0 (Ef.st Tryz.sizeOf34 (t0 rfl) (t2 rfl) rfl (by repeat constructor) (by repeat constructor) (by repeat constructor) (by first | rfl | simp) ?_)
 refine JL.n4 <| JL.mv (t12 rfl) <| JL.rd (Rd.nil (t0 rfl)) <| JL.rd ((by first | exact Rd.fld0 fld_131_0 (t0 rfl) | exact Rd.fldz fld_131_0 (t0 rfl))) ?_
 refine JL.rd (Rd.ldN Tryz.isAgg26 (t0 rfl) (by repeat constructor) (by repeat constructor)) ?_
 refine JL.mv (t17 rfl) <| JL.ef (Ef.call (.cons (t1 rfl) (.cons (t0 rfl) .nil)) (tread_any t d m root D b n hb hn hv) (by repeat constructor) ?_)
 rintro x hx
 simp only [cA, nA]
 exact JL.e (t0 rfl) <| JL.e (t1 rfl) <| JL.as (t1 rfl) <| JL.as (t1 rfl) <| JL.nr <| At.ret (x) (hx) (ResV.two rfl (t1 rfl) (t0 rfl)) rfl (fun _ st => Stars.sel (by repeat constructor) (chA_gone (Stars.sel (pre := [pts c (.cells [.pointer (some ⟨t, 0, none⟩), .slice a1 tk.length c1, .slice a2 (gn.length + 1) c3].toArray 131), row a1 c1 3 1 (natV tk), row a2 c3 3 1 (natV gn ++ [[.int .i64 (b : Int)]]), nodesM [x], pts t (.cells [.pointer (some ⟨d, 0, none⟩), .pointer (some ⟨m, 0, none⟩), .int .i64 root].toArray 68), dk d D]) (by repeat constructor) st)))

set_option maxHeartbeats 400000 in
theorem lwrite_any (c t d m f : Nat) (root : Int) (st : BSt) (a : Option Addr) (cap : Nat) (l : List It) (p : It) (hp : l[0]? = some p) (hz0 : 0 < sizeL l) (hs : sizeL l ≤ 505) (hl : l.length ≤ 1048576) (hok : StOk st) :
    Fn Tryz.prog 104 [.pointer (some ⟨c, 0, none⟩), .iface 85 (.slice a l.length cap)] [chA c t st.tk st.gn, pts t (.cells [.pointer (some ⟨d, 0, none⟩), .pointer (some ⟨m, 0, none⟩), .int .i64 root].toArray 68), dk d st.D, bm m f st.s, rowR a 2 (l.map itc)] (X := Bs) (fun x => (wrT f (.leaf l) st).2.1 = 0 → x = fkN (.leaf l)) (fun x => .tuple #[.agg [str x, .int .i64 ((wrT f (.leaf l) st).2.2 : Int)].toArray, .int .i64 (wrT f (.leaf l) st).2.1]) (fun _ => [chA c t (wrT f (.leaf l) st).1.tk (wrT f (.leaf l) st).1.gn, pts t (.cells [.pointer (some ⟨d, 0, none⟩), .pointer (some ⟨m, 0, none⟩), .int .i64 root].toArray 68), dk d (wrT f (.leaf l) st).1.D, bm m f (wrT f (.leaf l) st).1.s, rowR a 2 (l.map itc)]) := by
 refine Fn.mk' (n := 48) (l := [(0, .pointer (some ⟨c, 0, none⟩)), (1, .iface 85 (.slice a l.length cap))]) (fn := Tryz.f104) Tryz.func104 (by kernel_rfl) rfl rfl (by simp) rfl ?_
 intro h0 w0
 obtain ⟨ho1, ho2, ho3, ho4⟩ := hok
 have hel : (ndEnc (.leaf l)).length = 512 := ndEnc_length (n := (.leaf l)) hs
 refine J.openT (by repeat constructor) chA_open ?_
 rintro ⟨⟨a1, c1⟩, a2, c2⟩ -
 dsimp only
 simp only [cA, nA]
 refine J.sr <| JL.ef (Ef.alloc Tryz.zeroValue91 rfl ?_)
 intro b1
 refine JL.as Ev.c <| JL.n4 <| JL.mv (t2 rfl) <| JL.rd (Rd.nil (t0 rfl)) <| JL.rd ((by first | exact Rd.fld0 fld_131_0 (t0 rfl) | exact Rd.fldz fld_131_0 (t0 rfl))) ?_
 refine JL.rd (Rd.ldN Tryz.isAgg26 (t0 rfl) (by repeat constructor) (by repeat constructor)) ?_
 refine JL.rd (Rd.nil (t0 rfl)) <| JL.rd ((by first | exact Rd.fld0 fld_68_1 (t0 rfl) | exact Rd.fld fld_68_1 (t0 rfl))) ?_
 refine JL.rd (Rd.ldN Tryz.isAgg25 (t0 rfl) (by repeat constructor) (by repeat constructor)) ?_
 refine JL.ef (Ef.call (.cons (t0 rfl) .nil) (take_m m f st.s) (by repeat constructor) ?_)
 rintro - -
 simp only [cA, nA]
 refine JL.mv (t0 rfl) <| JL.e (t0 rfl) <| JL.e (t1 rfl) <| JL.as (t1 rfl) <| JL.as (t1 rfl) <| JL.n5 <| JL.mv (t0 rfl) <| JL.rd (Rd.neq (t0 rfl) Ev.c) <| JL.n2 <| J.condD (t0 rfl) ?_ ?_
 intro hc2
 obtain ⟨w1, w2⟩ := wr_none (f := f) (n := (.leaf l)) hc2
 rw [w2]
 refine J.sr <| JL.rd (Rd.buildS .nil bld_91 (by repeat (first | exact FillN.nil | apply FillN.one rfl rfl (by repeat constructor)))) ?_
 refine JL.mv (t3 rfl) <| JL.ef0 (Ef.stB Tryz.sizeOf91 (t18 rfl) (t1 rfl) (by repeat constructor) (by repeat constructor) (by first | rfl | assumption | simp_all) (by first | rfl | assumption | simp_all) (by first | exact bv_one _ | exact cons_one rfl (bv_one _) | (simp [Value.oneCell']; done) | (simp [Value.oneCell', str]; done)) (by decide) ?_)
 exact JL.as (t0 rfl) <| JL.nr <| At.nextR <| At.ret ([]) (fun h => absurd h (by rw [w1]; assumption)) (ResV.many (rs := [.cell 4 91, .tmp 5]) rfl (.agg Tryz.isAgg91 Tryz.sizeOf91 (t19 rfl) (by repeat constructor) (by first | rfl | assumption | simp_all) (.tmp (t0 rfl) .nil)) (by simp)) (by rw [w1]; rfl) (fun _ q => by rw [w1]; exact Stars.sel (by repeat constructor) (chA_shut (Stars.sel (pre := [pts c (.cells [.pointer (some ⟨t, 0, none⟩), .slice a1 st.tk.length c1, .slice a2 st.gn.length c2].toArray 131), row a1 c1 3 1 (natV st.tk), row a2 c2 3 1 (natV st.gn), pts t (.cells [.pointer (some ⟨d, 0, none⟩), .pointer (some ⟨m, 0, none⟩), .int .i64 root].toArray 68), dk d st.D, bm m f st.s, rowR a 2 (l.map itc)]) (by repeat constructor) q)))
 intro hc2
 obtain ⟨k, w1, w2, w3, hk, hk0⟩ := wr_some (f := f) (n := (.leaf l)) (by simpa using hc2)
 rw [w2, w3]
 refine J.k4 <| JL.mv (t17 rfl) <| JL.mv (t18 rfl) <| JL.rd (Rd.nil (t0 rfl)) <| JL.rd ((by first | exact Rd.fld0 fld_131_1 (t0 rfl) | exact Rd.fld fld_131_1 (t0 rfl))) ?_
 refine JL.rd (Rd.ldN Tryz.isAgg34 (t0 rfl) (by repeat constructor) (by repeat constructor)) ?_
 refine JL.mv (t8 rfl) <| JL.ef (Ef.slit1 elt_34 (t0 rfl) rfl rfl (by decide) ?_)
 intro b3
 refine JL.ef (Ef.appS elt_34 (t2 rfl) (t0 rfl) (by repeat constructor) (Src.i (by repeat constructor)) (by first | (simp; done) | (simp; omega) | omega | (simp [*]; done) | (simp [*]; omega)) (by first | (simp; done) | (simp; omega) | omega | (simp [*]; done) | (simp [*]; omega)) (by simp [Value.oneCell']) (by first | omega | (simp; omega)) (by first | (simp only [maxLen]; omega) | (simp [maxLen]; omega)) ?_)
 intro a4 c5
 refine JL.rd (Rd.nil (t7 rfl)) <| JL.rd ((by first | exact Rd.fld0 fld_131_1 (t0 rfl) | exact Rd.fld fld_131_1 (t0 rfl))) ?_
 refine JL.ef0 (Ef.st Tryz.sizeOf34 (t0 rfl) (t2 rfl) rfl (by repeat constructor) (by repeat constructor) (by repeat constructor) (by first | rfl | simp) ?_)
 refine JL.ns <| J.live (K := [(6, _), (5, _), (4, _), (0, _), (1, _)]) ⟨(lk13 rfl), (lk25 rfl), (lk26 rfl), (lk27 rfl), (lk28 rfl), trivial⟩ ?_
 intro ρ6
 refine J.draw [lz, ⟨true, 0, 0⟩, ⟨false, 0, 3⟩, ⟨false, 1, 3⟩, ⟨false, 0, 2⟩, ⟨false, 0, 2⟩, ⟨false, 0, 2⟩, ⟨false, 0, 2⟩, ⟨false, 0, 2⟩, ⟨false, 0, 2⟩, ⟨false, 0, 2⟩, ⟨false, 0, 2⟩, ⟨false, 0, 1⟩, ⟨true, 1, 1⟩, ⟨true, 2, 2⟩, ⟨true, 3, 3⟩, ⟨false, 4, 4⟩] [1, 13, 14, 15] mixed rfl <| DRun.at [] [0, 2, 4, 5, 6, 7, 8, 9, 10, 11, 12] rfl rfl ?_ ?_
 exact .nil
 refine DNew.rd rfl (Rd.move (t4 rfl)) <| DNew.rd rfl (Rd.move (t1 rfl)) <| DNew.rd rfl (Rd.move (t5 rfl)) <| DNew.rd rfl (Rd.nil (t0 rfl)) <| DNew.rd rfl ((by first | exact Rd.fld0 fld_131_0 (t0 rfl) | exact Rd.fldz fld_131_0 (t0 rfl))) ?_
 refine DNew.rd rfl (Rd.ldN Tryz.isAgg26 (t0 rfl) (by repeat constructor) (by repeat constructor)) ?_
 refine DNew.rd rfl (Rd.nil (t0 rfl)) <| DNew.rd rfl ((by first | exact Rd.fld0 fld_68_0 (t0 rfl) | exact Rd.fldz fld_68_0 (t0 rfl))) ?_
 refine DNew.rd rfl (Rd.ldN Tryz.isAgg24 (t0 rfl) (by repeat constructor) (by repeat constructor)) ?_
 refine DNew.rd rfl (Rd.move (t9 rfl)) <| DNew.rd rfl (Rd.move (t14 rfl)) <| DNew.nil <| DRun.ef rfl (Ef.callm (t10 rfl) (mth_lfirst _) .nil (lfirst_any a cap l p hp) (by repeat constructor) ?_)
 rintro - -
 simp only [cA, nA]
 refine DRun.at [2, 4, 5, 6, 7, 8, 9, 10, 11, 12] [3] rfl rfl ?_ ?_
 refine DCar.rd rfl (lk10 rfl) (Rd.move (t12 rfl)) <| DCar.rd rfl (lk9 rfl) (Rd.move (t15 rfl)) <| DCar.rd rfl (lk8 rfl) (Rd.nil (t9 rfl)) <| DCar.rd rfl (lk7 rfl) ((by first | exact Rd.fld0 fld_131_0 (t8 rfl) | exact Rd.fldz fld_131_0 (t8 rfl))) ?_
 refine DCar.rd rfl (lk6 rfl) (Rd.ldN Tryz.isAgg26 (t7 rfl) (by repeat constructor) (by repeat constructor)) ?_
 refine DCar.rd rfl (lk5 rfl) (Rd.nil (t6 rfl)) <| DCar.rd rfl (lk4 rfl) ((by first | exact Rd.fld0 fld_68_0 (t5 rfl) | exact Rd.fldz fld_68_0 (t5 rfl))) ?_
 refine DCar.rd rfl (lk3 rfl) (Rd.ldN Tryz.isAgg24 (t4 rfl) (by repeat constructor) (by repeat constructor)) ?_
 exact DCar.rd rfl (lk2 rfl) (Rd.move (t12 rfl)) <| DCar.rd rfl (lk1 rfl) (Rd.move (t16 rfl)) <| .nil
 refine DNew.rd rfl (Rd.buildS (.cons (t0 rfl) (.cons (t10 rfl) .nil)) bld_91 (by repeat (first | exact FillN.nil | apply FillN.one rfl rfl (by repeat constructor)))) ?_
 refine DNew.nil <| DRun.ef rfl (Ef.call (.cons (t2 rfl) .nil) (lenc_any a cap l hz0 hs hl) (by repeat constructor) ?_)
 rintro eb -
 simp only [cA, nA]
 refine DRun.at [2, 3, 4, 5, 6, 7, 8, 9, 10, 11] [] rfl rfl ?_ ?_
 refine DCar.rd rfl (lk12 rfl) (Rd.move (t14 rfl)) <| DCar.rd rfl (lk1 rfl) (Rd.buildS (.cons (t2 rfl) (.cons (t12 rfl) .nil)) bld_91 (by repeat (first | exact FillN.nil | apply FillN.one rfl rfl (by repeat constructor)))) ?_
 refine DCar.rd rfl (lk11 rfl) (Rd.move (t17 rfl)) <| DCar.rd rfl (lk10 rfl) (Rd.nil (t11 rfl)) <| DCar.rd rfl (lk9 rfl) ((by first | exact Rd.fld0 fld_131_0 (t10 rfl) | exact Rd.fldz fld_131_0 (t10 rfl))) ?_
 refine DCar.rd rfl (lk8 rfl) (Rd.ldN Tryz.isAgg26 (t9 rfl) (by repeat constructor) (by repeat constructor)) ?_
 refine DCar.rd rfl (lk7 rfl) (Rd.nil (t8 rfl)) <| DCar.rd rfl (lk6 rfl) ((by first | exact Rd.fld0 fld_68_0 (t7 rfl) | exact Rd.fldz fld_68_0 (t7 rfl))) ?_
 refine DCar.rd rfl (lk5 rfl) (Rd.ldN Tryz.isAgg24 (t6 rfl) (by repeat constructor) (by repeat constructor)) ?_
 exact DCar.rd rfl (lk4 rfl) (Rd.move (t14 rfl)) <| .nil
 refine DNew.nil <| DRun.ef rfl (Ef.call (.cons (t5 rfl) (.cons (t4 rfl) (.cons (t0 rfl) .nil))) (write_len d st.D _ (some ⟨eb, 0, none⟩) 512 512 (ndEnc (.leaf l)) hel (by omega) (by omega)) (by repeat constructor) ?_)
 rintro - -
 simp only [cA, nA]
 refine DRun.at [2, 3] [] rfl rfl ?_ ?_
 refine DCar.rd rfl (lk13 rfl) (Rd.move (t15 rfl)) <| DCar.rd rfl (lk2 rfl) (Rd.buildS (.cons (t3 rfl) (.cons (t13 rfl) .nil)) bld_91 (by repeat (first | exact FillN.nil | apply FillN.one rfl rfl (by repeat constructor)))) ?_
 exact .nil
 refine DNew.nil <| DRun.ef0 rfl (Ef.stB Tryz.sizeOf91 (t17 rfl) (t2 rfl) (by repeat constructor) (by repeat constructor) (by first | rfl | assumption | simp_all) (by first | rfl | assumption | simp_all) (by first | exact bv_one _ | exact cons_one rfl (bv_one _) | (simp [Value.oneCell']; done) | (simp [Value.oneCell', str]; done)) (by decide) ?_)
 refine DRun.end [] [16] rfl rfl ?_ ?_
 exact .nil
 exact DNew.rd rfl (Rd.assign (t0 rfl)) <| DNew.n2 <| J.ret <| At.ret (p.1) (fun _ => by (show p.1 = (l.head?.map (·.1)).getD []); cases l with | nil => simp at hp | cons q l => (simp at hp; subst hp; rfl)) (ResV.many (rs := [.cell 4 91, .tmp 5]) rfl (.agg Tryz.isAgg91 Tryz.sizeOf91 (t18 rfl) (by repeat constructor) (by first | rfl | assumption | simp_all) (.tmp (t0 rfl) .nil)) (by simp)) (by rw [w1]) (fun _ q => by rw [w1]; exact Stars.sel (by repeat constructor) (chA_took (Stars.sel (pre := [pts c (.cells [.pointer (some ⟨t, 0, none⟩), .slice a4 (st.tk.length + 1) c5, .slice a2 st.gn.length c2].toArray 131), row a4 c5 3 1 (natV st.tk ++ [[.int .i64 ((f + k : Nat) : Int)]]), row a2 c2 3 1 (natV st.gn), pts t (.cells [.pointer (some ⟨d, 0, none⟩), .pointer (some ⟨m, 0, none⟩), .int .i64 root].toArray 68), dk d (writeD st.D ((f + k : Nat) : Int) (ndEnc (.leaf l))), bm m f (st.s.set k 2), rowR a 2 (l.map itc)]) (by repeat constructor) q)))

set_option maxHeartbeats 400000 in
theorem iwrite_any (c t d m f : Nat) (root : Int) (st : BSt) (a : Option Addr) (cap : Nat) (l : List Kd) (p : Kd) (hp : l[0]? = some p) (hz0 : 0 < sizeI l) (hs : sizeI l ≤ 505) (hl : l.length ≤ 1048576) (hok : StOk st) :
    Fn Tryz.prog 104 [.pointer (some ⟨c, 0, none⟩), .iface 89 (.slice a l.length cap)] [chA c t st.tk st.gn, pts t (.cells [.pointer (some ⟨d, 0, none⟩), .pointer (some ⟨m, 0, none⟩), .int .i64 root].toArray 68), dk d st.D, bm m f st.s, rowR a 2 (l.map kdc)] (X := Bs) (fun x => (wrT f (.inner l) st).2.1 = 0 → x = fkN (.inner l)) (fun x => .tuple #[.agg [str x, .int .i64 ((wrT f (.inner l) st).2.2 : Int)].toArray, .int .i64 (wrT f (.inner l) st).2.1]) (fun _ => [chA c t (wrT f (.inner l) st).1.tk (wrT f (.inner l) st).1.gn, pts t (.cells [.pointer (some ⟨d, 0, none⟩), .pointer (some ⟨m, 0, none⟩), .int .i64 root].toArray 68), dk d (wrT f (.inner l) st).1.D, bm m f (wrT f (.inner l) st).1.s, rowR a 2 (l.map kdc)]) := by
 refine Fn.mk' (n := 48) (l := [(0, .pointer (some ⟨c, 0, none⟩)), (1, .iface 89 (.slice a l.length cap))]) (fn := Tryz.f104) Tryz.func104 (by kernel_rfl) rfl rfl (by simp) rfl ?_
 intro h0 w0
 obtain ⟨ho1, ho2, ho3, ho4⟩ := hok
 have hel : (ndEnc (.inner l)).length = 512 := ndEnc_length (n := (.inner l)) hs
 refine J.openT (by repeat constructor) chA_open ?_
 rintro ⟨⟨a1, c1⟩, a2, c2⟩ -
 dsimp only
 simp only [cA, nA]
 refine J.sr <| JL.ef (Ef.alloc Tryz.zeroValue91 rfl ?_)
 intro b1
 refine JL.as Ev.c <| JL.n4 <| JL.mv (t2 rfl) <| JL.rd (Rd.nil (t0 rfl)) <| JL.rd ((by first | exact Rd.fld0 fld_131_0 (t0 rfl) | exact Rd.fldz fld_131_0 (t0 rfl))) ?_
 refine JL.rd (Rd.ldN Tryz.isAgg26 (t0 rfl) (by repeat constructor) (by repeat constructor)) ?_
 refine JL.rd (Rd.nil (t0 rfl)) <| JL.rd ((by first | exact Rd.fld0 fld_68_1 (t0 rfl) | exact Rd.fld fld_68_1 (t0 rfl))) ?_
 refine JL.rd (Rd.ldN Tryz.isAgg25 (t0 rfl) (by repeat constructor) (by repeat constructor)) ?_
 refine JL.ef (Ef.call (.cons (t0 rfl) .nil) (take_m m f st.s) (by repeat constructor) ?_)
 rintro - -
 simp only [cA, nA]
 refine JL.mv (t0 rfl) <| JL.e (t0 rfl) <| JL.e (t1 rfl) <| JL.as (t1 rfl) <| JL.as (t1 rfl) <| JL.n5 <| JL.mv (t0 rfl) <| JL.rd (Rd.neq (t0 rfl) Ev.c) <| JL.n2 <| J.condD (t0 rfl) ?_ ?_
 intro hc2
 obtain ⟨w1, w2⟩ := wr_none (f := f) (n := (.inner l)) hc2
 rw [w2]
 refine J.sr <| JL.rd (Rd.buildS .nil bld_91 (by repeat (first | exact FillN.nil | apply FillN.one rfl rfl (by repeat constructor)))) ?_
 refine JL.mv (t3 rfl) <| JL.ef0 (Ef.stB Tryz.sizeOf91 (t18 rfl) (t1 rfl) (by repeat constructor) (by repeat constructor) (by first | rfl | assumption | simp_all) (by first | rfl | assumption | simp_all) (by first | exact bv_one _ | exact cons_one rfl (bv_one _) | (simp [Value.oneCell']; done) | (simp [Value.oneCell', str]; done)) (by decide) ?_)
 exact JL.as (t0 rfl) <| JL.nr <| At.nextR <| At.ret ([]) (fun h => absurd h (by rw [w1]; assumption)) (ResV.many (rs := [.cell 4 91, .tmp 5]) rfl (.agg Tryz.isAgg91 Tryz.sizeOf91 (t19 rfl) (by repeat constructor) (by first | rfl | assumption | simp_all) (.tmp (t0 rfl) .nil)) (by simp)) (by rw [w1]; rfl) (fun _ q => by rw [w1]; exact Stars.sel (by repeat constructor) (chA_shut (Stars.sel (pre := [pts c (.cells [.pointer (some ⟨t, 0, none⟩), .slice a1 st.tk.length c1, .slice a2 st.gn.length c2].toArray 131), row a1 c1 3 1 (natV st.tk), row a2 c2 3 1 (natV st.gn), pts t (.cells [.pointer (some ⟨d, 0, none⟩), .pointer (some ⟨m, 0, none⟩), .int .i64 root].toArray 68), dk d st.D, bm m f st.s, rowR a 2 (l.map kdc)]) (by repeat constructor) q)))
 intro hc2
 obtain ⟨k, w1, w2, w3, hk, hk0⟩ := wr_some (f := f) (n := (.inner l)) (by simpa using hc2)
 rw [w2, w3]
 refine J.k4 <| JL.mv (t17 rfl) <| JL.mv (t18 rfl) <| JL.rd (Rd.nil (t0 rfl)) <| JL.rd ((by first | exact Rd.fld0 fld_131_1 (t0 rfl) | exact Rd.fld fld_131_1 (t0 rfl))) ?_
 refine JL.rd (Rd.ldN Tryz.isAgg34 (t0 rfl) (by repeat constructor) (by repeat constructor)) ?_
 refine JL.mv (t8 rfl) <| JL.ef (Ef.slit1 elt_34 (t0 rfl) rfl rfl (by decide) ?_)
 intro b3
 refine JL.ef (Ef.appS elt_34 (t2 rfl) (t0 rfl) (by repeat constructor) (Src.i (by repeat constructor)) (by first | (simp; done) | (simp; omega) | omega | (simp [*]; done) | (simp [*]; omega)) (by first | (simp; done) | (simp; omega) | omega | (simp [*]; done) | (simp [*]; omega)) (by simp [Value.oneCell']) (by first | omega | (simp; omega)) (by first | (simp only [maxLen]; omega) | (simp [maxLen]; omega)) ?_)
 intro a4 c5
 refine JL.rd (Rd.nil (t7 rfl)) <| JL.rd ((by first | exact Rd.fld0 fld_131_1 (t0 rfl) | exact Rd.fld fld_131_1 (t0 rfl))) ?_
 refine JL.ef0 (Ef.st Tryz.sizeOf34 (t0 rfl) (t2 rfl) rfl (by repeat constructor) (by repeat constructor) (by repeat constructor) (by first | rfl | simp) ?_)
 refine JL.ns <| J.live (K := [(6, _), (5, _), (4, _), (0, _), (1, _)]) ⟨(lk13 rfl), (lk25 rfl), (lk26 rfl), (lk27 rfl), (lk28 rfl), trivial⟩ ?_
 intro ρ6
 refine J.draw [lz, ⟨true, 0, 0⟩, ⟨false, 0, 3⟩, ⟨false, 1, 3⟩, ⟨false, 0, 2⟩, ⟨false, 0, 2⟩, ⟨false, 0, 2⟩, ⟨false, 0, 2⟩, ⟨false, 0, 2⟩, ⟨false, 0, 2⟩, ⟨false, 0, 2⟩, ⟨false, 0, 2⟩, ⟨false, 0, 1⟩, ⟨true, 1, 1⟩, ⟨true, 2, 2⟩, ⟨true, 3, 3⟩, ⟨false, 4, 4⟩] [1, 13, 14, 15] mixed rfl <| DRun.at [] [0, 2, 4, 5, 6, 7, 8, 9, 10, 11, 12] rfl rfl ?_ ?_
 exact .nil
 refine DNew.rd rfl (Rd.move (t4 rfl)) <| DNew.rd rfl (Rd.move (t1 rfl)) <| DNew.rd rfl (Rd.move (t5 rfl)) <| DNew.rd rfl (Rd.nil (t0 rfl)) <| DNew.rd rfl ((by first | exact Rd.fld0 fld_131_0 (t0 rfl) | exact Rd.fldz fld_131_0 (t0 rfl))) ?_
 refine DNew.rd rfl (Rd.ldN Tryz.isAgg26 (t0 rfl) (by repeat constructor) (by repeat constructor)) ?_
 refine DNew.rd rfl (Rd.nil (t0 rfl)) <| DNew.rd rfl ((by first | exact Rd.fld0 fld_68_0 (t0 rfl) | exact Rd.fldz fld_68_0 (t0 rfl))) ?_
 refine DNew.rd rfl (Rd.ldN Tryz.isAgg24 (t0 rfl) (by repeat constructor) (by repeat constructor)) ?_
 refine DNew.rd rfl (Rd.move (t9 rfl)) <| DNew.rd rfl (Rd.move (t14 rfl)) <| DNew.nil <| DRun.ef rfl (Ef.callm (t10 rfl) (mth_ifirst _) .nil (ifirst_any a cap l p hp) (by repeat constructor) ?_)
 rintro - -
 simp only [cA, nA]
 refine DRun.at [2, 4, 5, 6, 7, 8, 9, 10, 11, 12] [3] rfl rfl ?_ ?_
 refine DCar.rd rfl (lk10 rfl) (Rd.move (t12 rfl)) <| DCar.rd rfl (lk9 rfl) (Rd.move (t15 rfl)) <| DCar.rd rfl (lk8 rfl) (Rd.nil (t9 rfl)) <| DCar.rd rfl (lk7 rfl) ((by first | exact Rd.fld0 fld_131_0 (t8 rfl) | exact Rd.fldz fld_131_0 (t8 rfl))) ?_
 refine DCar.rd rfl (lk6 rfl) (Rd.ldN Tryz.isAgg26 (t7 rfl) (by repeat constructor) (by repeat constructor)) ?_
 refine DCar.rd rfl (lk5 rfl) (Rd.nil (t6 rfl)) <| DCar.rd rfl (lk4 rfl) ((by first | exact Rd.fld0 fld_68_0 (t5 rfl) | exact Rd.fldz fld_68_0 (t5 rfl))) ?_
 refine DCar.rd rfl (lk3 rfl) (Rd.ldN Tryz.isAgg24 (t4 rfl) (by repeat constructor) (by repeat constructor)) ?_
 exact DCar.rd rfl (lk2 rfl) (Rd.move (t12 rfl)) <| DCar.rd rfl (lk1 rfl) (Rd.move (t16 rfl)) <| .nil
 refine DNew.rd rfl (Rd.buildS (.cons (t0 rfl) (.cons (t10 rfl) .nil)) bld_91 (by repeat (first | exact FillN.nil | apply FillN.one rfl rfl (by repeat constructor)))) ?_
 refine DNew.nil <| DRun.ef rfl (Ef.call (.cons (t2 rfl) .nil) (ienc_any a cap l hz0 hs hl) (by repeat constructor) ?_)
 rintro eb -
 simp only [cA, nA]
 refine DRun.at [2, 3, 4, 5, 6, 7, 8, 9, 10, 11] [] rfl rfl ?_ ?_
 refine DCar.rd rfl (lk12 rfl) (Rd.move (t14 rfl)) <| DCar.rd rfl (lk1 rfl) (Rd.buildS (.cons (t2 rfl) (.cons (t12 rfl) .nil)) bld_91 (by repeat (first | exact FillN.nil | apply FillN.one rfl rfl (by repeat constructor)))) ?_
 refine DCar.rd rfl (lk11 rfl) (Rd.move (t17 rfl)) <| DCar.rd rfl (lk10 rfl) (Rd.nil (t11 rfl)) <| DCar.rd rfl (lk9 rfl) ((by first | exact Rd.fld0 fld_131_0 (t10 rfl) | exact Rd.fldz fld_131_0 (t10 rfl))) ?_
 refine DCar.rd rfl (lk8 rfl) (Rd.ldN Tryz.isAgg26 (t9 rfl) (by repeat constructor) (by repeat constructor)) ?_
 refine DCar.rd rfl (lk7 rfl) (Rd.nil (t8 rfl)) <| DCar.rd rfl (lk6 rfl) ((by first | exact Rd.fld0 fld_68_0 (t7 rfl) | exact Rd.fldz fld_68_0 (t7 rfl))) ?_
 refine DCar.rd rfl (lk5 rfl) (Rd.ldN Tryz.isAgg24 (t6 rfl) (by repeat constructor) (by repeat constructor)) ?_
 exact DCar.rd rfl (lk4 rfl) (Rd.move (t14 rfl)) <| .nil
 refine DNew.nil <| DRun.ef rfl (Ef.call (.cons (t5 rfl) (.cons (t4 rfl) (.cons (t0 rfl) .nil))) (write_len d st.D _ (some ⟨eb, 0, none⟩) 512 512 (ndEnc (.inner l)) hel (by omega) (by omega)) (by repeat constructor) ?_)
 rintro - -
 simp only [cA, nA]
 refine DRun.at [2, 3] [] rfl rfl ?_ ?_
 refine DCar.rd rfl (lk13 rfl) (Rd.move (t15 rfl)) <| DCar.rd rfl (lk2 rfl) (Rd.buildS (.cons (t3 rfl) (.cons (t13 rfl) .nil)) bld_91 (by repeat (first | exact FillN.nil | apply FillN.one rfl rfl (by repeat constructor)))) ?_
 exact .nil
 refine DNew.nil <| DRun.ef0 rfl (Ef.stB Tryz.sizeOf91 (t17 rfl) (t2 rfl) (by repeat constructor) (by repeat constructor) (by first | rfl | assumption | simp_all) (by first | rfl | assumption | simp_all) (by first | exact bv_one _ | exact cons_one rfl (bv_one _) | (simp [Value.oneCell']; done) | (simp [Value.oneCell', str]; done)) (by decide) ?_)
 refine DRun.end [] [16] rfl rfl ?_ ?_
 exact .nil
 exact DNew.rd rfl (Rd.assign (t0 rfl)) <| DNew.n2 <| J.ret <| At.ret (p.1) (fun _ => by (show p.1 = (l.head?.map (·.1)).getD []); cases l with | nil => simp at hp | cons q l => (simp at hp; subst hp; rfl)) (ResV.many (rs := [.cell 4 91, .tmp 5]) rfl (.agg Tryz.isAgg91 Tryz.sizeOf91 (t18 rfl) (by repeat constructor) (by first | rfl | assumption | simp_all) (.tmp (t0 rfl) .nil)) (by simp)) (by rw [w1]) (fun _ q => by rw [w1]; exact Stars.sel (by repeat constructor) (chA_took (Stars.sel (pre := [pts c (.cells [.pointer (some ⟨t, 0, none⟩), .slice a4 (st.tk.length + 1) c5, .slice a2 st.gn.length c2].toArray 131), row a4 c5 3 1 (natV st.tk ++ [[.int .i64 ((f + k : Nat) : Int)]]), row a2 c2 3 1 (natV st.gn), pts t (.cells [.pointer (some ⟨d, 0, none⟩), .pointer (some ⟨m, 0, none⟩), .int .i64 root].toArray 68), dk d (writeD st.D ((f + k : Nat) : Int) (ndEnc (.inner l))), bm m f (st.s.set k 2), rowR a 2 (l.map kdc)]) (by repeat constructor) q)))
theorem write_nd (c t d m f : Nat) (root : Int) (st : BSt) (x : NdV) (hx : NdG x.n) (hok : StOk st) :
    Fn Tryz.prog 104 [.pointer (some ⟨c, 0, none⟩), x.val] [chA c t st.tk st.gn, pts t (.cells [.pointer (some ⟨d, 0, none⟩), .pointer (some ⟨m, 0, none⟩), .int .i64 root].toArray 68), dk d st.D, bm m f st.s, rowR x.a 2 x.cells] (X := Bs) (fun y => (wrT f x.n st).2.1 = 0 → y = fkN x.n) (fun y => .tuple #[.agg [str y, .int .i64 ((wrT f x.n st).2.2 : Int)].toArray, .int .i64 (wrT f x.n st).2.1]) (fun _ => [chA c t (wrT f x.n st).1.tk (wrT f x.n st).1.gn, pts t (.cells [.pointer (some ⟨d, 0, none⟩), .pointer (some ⟨m, 0, none⟩), .int .i64 root].toArray 68), dk d (wrT f x.n st).1.D, bm m f (wrT f x.n st).1.s, rowR x.a 2 x.cells]) := by
  obtain ⟨a, cap, n⟩ := x
  have hlen := hx.len
  cases n with
  | leaf l =>
    obtain ⟨h1, h2, h3⟩ := hx
    obtain ⟨p, hp⟩ : ∃ p, l[0]? = some p := ⟨_, List.getElem?_eq_getElem (List.length_pos_iff.2 h1)⟩
    have h4 := sizeL_len h2
    have h5 := List.length_pos_iff.2 h1
    exact lwrite_any c t d m f root st a cap l p hp (by omega) h3 (Nat.le_trans hlen (by decide)) hok
  | inner l =>
    obtain ⟨h1, h2, h3⟩ := hx
    obtain ⟨p, hp⟩ : ∃ p, l[0]? = some p := ⟨_, List.getElem?_eq_getElem (List.length_pos_iff.2 h1)⟩
    have h4 := sizeI_len l
    have h5 := List.length_pos_iff.2 h1
    exact iwrite_any c t d m f root st a cap l p hp (by omega) h3 (Nat.le_trans hlen (by decide)) hok
def kcs {h : Nat} (ks : List (Kt h)) : List (List Value) := (ks.map kdp).map kdc
@[simp] theorem kcs_length {h : Nat} (ks : List (Kt h)) : (kcs ks).length = ks.length := by simp [kcs]
theorem kcs_snoc {h : Nat} (ks : List (Kt h)) (p : Kt h) : kcs ks ++ [[str p.1, .int .i64 (p.2.1 : Int)]] = kcs (ks ++ [p]) := by simp [kcs, kdc, kdp]
def preK {h : Nat} (ks : List (Kt h)) (q : BSt × Int × List (Kt h)) : BSt × Int × List (Kt h) := if q.2.1 ≠ 0 then (q.1, q.2.1, []) else (q.1, 0, ks ++ q.2.2)
theorem kids_err {f h : Nat} {ks : List (Kt h)} {t : Tr h} {l : List (Tr h)} {st : BSt} (e : (wrT f (nd h t) st).2.1 ≠ 0) : preK ks (kidsT f (t :: l) st) = ((wrT f (nd h t) st).1, (wrT f (nd h t) st).2.1, []) := by
  unfold kidsT preK
  rw [if_pos e, if_pos e]
theorem kids_go {f h : Nat} {ks : List (Kt h)} {t : Tr h} {l : List (Tr h)} {st : BSt} (e : (wrT f (nd h t) st).2.1 = 0) : preK ks (kidsT f (t :: l) st) = preK (ks ++ [(fk h t, (wrT f (nd h t) st).2.2, nrm h t)]) (kidsT f l (wrT f (nd h t) st).1) := by
  conv => lhs; unfold kidsT
  rw [if_neg (by rw [e]; decide)]
  by_cases e2 : (kidsT f l (wrT f (nd h t) st).1).2.1 = 0
  · rw [if_neg (by rw [e2]; decide)]
    simp [preK, e2]
  · rw [if_pos e2]
    simp [preK, e2]
theorem kids_all {f h : Nat} {l : List (Tr h)} {st : BSt} : preK [] (kidsT f l st) = kidsT f l st := by
  by_cases h0 : (kidsT f l st).2.1 = 0
  · generalize kidsT f l st = q at h0 ⊢
    obtain ⟨a, b, c⟩ := q
    obtain rfl : b = 0 := h0
    simp [preK]
  · unfold preK
    rw [if_pos h0]
    cases l with
    | nil => exact absurd rfl h0
    | cons t l =>
      unfold kidsT at h0 ⊢
      split at h0
      · rename_i h1; rw [if_pos h1]
      · split at h0
        · rename_i h1 h2; rw [if_neg h1, if_pos h2]
        · exact absurd rfl h0

set_option maxHeartbeats 400000 in
theorem kids_any (c t d m f : Nat) (root : Int) (st : BSt) (h : Nat) (ts : List (Tr h)) (xs : List NdV) (al : Option Addr) (n cl : Nat) (hxs : xs.map (·.n) = ts.map (nd h)) (hn : ts.length = n) (hnn : n ≤ 1048576) (hts : TsG ts) (hok : StOk st) (A : Assn) (hA : ∀ {hs hs1 : List Assn}, Take A hs hs1 → SIn hs al 1 (nvals xs)) :
    Fn Tryz.prog 86 [.pointer (some ⟨c, 0, none⟩), .slice al n cl] [chA c t st.tk st.gn, pts t (.cells [.pointer (some ⟨d, 0, none⟩), .pointer (some ⟨m, 0, none⟩), .int .i64 root].toArray 68), dk d st.D, bm m f st.s, A, nodesM xs] (X := Option Addr × Nat) (fun _ => True) (fun x => .tuple #[.slice x.1 (kidsT f ts st).2.2.length x.2, .int .i64 (kidsT f ts st).2.1]) (fun x => [row x.1 x.2 91 2 (kcs (kidsT f ts st).2.2), chA c t (kidsT f ts st).1.tk (kidsT f ts st).1.gn, pts t (.cells [.pointer (some ⟨d, 0, none⟩), .pointer (some ⟨m, 0, none⟩), .int .i64 root].toArray 68), dk d (kidsT f ts st).1.D, bm m f (kidsT f ts st).1.s, A, nodesM xs]) := by
 refine Fn.mk' (n := 32) (l := [(0, .pointer (some ⟨c, 0, none⟩)), (1, .slice al n cl)]) (fn := Tryz.f86) Tryz.func86 (by kernel_rfl) rfl rfl (by simp) rfl ?_
 intro h0 w0
 have hxl : xs.length = n := by have := congrArg List.length hxs; simpa [hn] using this
 refine J.sr <| JL.as Ev.c <| JL.as Ev.c <| JL.n4 <| JL.as Ev.c <| JL.n5 <| JL.mv (t4 rfl) <| JL.rd (Rd.len Tryz.runUnderlying132 (t0 rfl)) <| JL.mv Ev.c <| JL.nb <| J.loop (X := Nat × BSt × List (Kt h) × Option Addr × Nat) (fun (x : Nat × BSt × List (Kt h) × Option Addr × Nat) => [(13, .int .i64 (x.1 : Int)), (6, .slice x.2.2.2.1 x.1 x.2.2.2.2)]) (K := [(12, _), (11, _), (5, _), (4, _), (0, _)]) (fun x => [row x.2.2.2.1 x.2.2.2.2 91 2 (kcs x.2.2.1), chA c t x.2.1.tk x.2.1.gn, pts t (.cells [.pointer (some ⟨d, 0, none⟩), .pointer (some ⟨m, 0, none⟩), .int .i64 root].toArray 68), dk d x.2.1.D, bm m f x.2.1.s, A, nodesM xs]) (fun x => x.1 ≤ n ∧ preK x.2.2.1 (kidsT f (ts.drop x.1) x.2.1) = kidsT f ts st ∧ x.2.2.1.length = x.1 ∧ StOk x.2.1) (fun x => n - x.1) ((0, st, [], none, 0)) ?_ ⟨lk0.trans (by first | with_reducible rfl | (congr 1; omega) | (simp; done) | (simp [*]; done)), (lk3 rfl).trans (by first | with_reducible rfl | (congr 1; omega) | (simp; done) | (simp [*]; done)), trivial⟩ ⟨(lk1 rfl), (lk2 rfl), (lk4 rfl), (lk5 rfl), (lk6 rfl), trivial⟩ (fun _ s => Stars.sel (by repeat constructor) (row_nil 91 2 s)) ?_
 exact ⟨Nat.zero_le _, kids_all, rfl, hok⟩
 rintro ⟨x, sx, ks, b, cp⟩ ρ ⟨hk, hpk, hkl, hokx⟩
 simp only [cA, nA]
 dsimp only at hk hpk hkl hokx ⊢
 refine J.sr <| JL.rd (Rd.lss (t0 rfl) (t2 rfl)) <| JL.ns <| J.condD (t0 rfl) ?_ ?_
 intro hc1
 obtain ⟨v, hv⟩ : ∃ v, xs[x]? = some v := ⟨_, List.getElem?_eq_getElem (by omega)⟩
 obtain ⟨u, hu⟩ : ∃ u, ts[x]? = some u := ⟨_, List.getElem?_eq_getElem (by omega)⟩
 have hvn : v.n = nd h u := by have := congrArg (fun l => l[x]?) hxs; simp only [List.getElem?_map, hv, hu, Option.map_some] at this; exact Option.some.inj this
 have hx : (nvals xs)[(x : Int).toNat]? = some [v.val] := by simp [nvals, hv]
 have hvg : NdG v.n := by rw [hvn]; exact hts u (List.mem_of_getElem? hu)
 have hdr : ts.drop x = u :: ts.drop (x + 1) := by obtain ⟨q1, q2⟩ := List.getElem?_eq_some_iff.1 hu; rw [List.drop_eq_getElem_cons q1, q2]
 rw [hdr] at hpk
 refine J.skip <| At.next <| J.seq <| J.block <| J.sr <| JL.rd (Rd.sIdx Tryz.runUnderlying132 Tryz.sizeOf76 (t4 rfl) (t1 rfl) (by first | (apply SIn.row; (repeat constructor); done) | (apply SIn.rowR; (repeat constructor); done) | (apply SIn.bytes; (repeat constructor); done) | (apply hA; (repeat constructor); done)) (by first | (simp; done) | (simp; omega) | omega | (simp [*]; done) | (simp [*]; omega)) (by omega) (by omega)) ?_
 refine JL.rd (Rd.sLd Tryz.isAgg76 (t0 rfl) (by first | (apply SIn.row; (repeat constructor); done) | (apply SIn.rowR; (repeat constructor); done) | (apply SIn.bytes; (repeat constructor); done) | (apply hA; (repeat constructor); done)) hx rfl) ?_
 refine JL.as (t0 rfl) <| JL.ns <| J.nodeGet (List.mem_of_getElem? hv) (by repeat constructor) ?_
 intro hvc
 refine J.region <| JL.mv (t10 rfl) <| JL.mv (t1 rfl) <| JL.ef (Ef.call (.cons (t1 rfl) (.cons (t0 rfl) .nil)) (write_nd c t d m f root sx v hvg hokx) (by repeat constructor) ?_)
 rintro y hy
 rw [hvn] at hy ⊢
 simp only [cA, nA]
 refine JL.mv (t0 rfl) <| JL.e (t0 rfl) <| JL.e (t1 rfl) <| JL.ef (Ef.alloc Tryz.zeroValue91 rfl ?_)
 intro b2
 refine JL.ef0 (Ef.stB Tryz.sizeOf91 (t0 rfl) (t2 rfl) (by repeat constructor) (by repeat constructor) (by first | rfl | assumption | simp_all) (by first | rfl | assumption | simp_all) (by first | exact bv_one _ | exact cons_one rfl (bv_one _) | (simp [Value.oneCell']; done) | (simp [Value.oneCell', str]; done)) (by decide) ?_)
 refine JL.as (t1 rfl) <| JL.n5 <| JL.mv (t0 rfl) <| JL.rd (Rd.neq (t0 rfl) Ev.c) <| JL.n2 <| J.condD (t0 rfl) ?_ ?_
 intro hc3
 have hw0 : (wrT f (nd h u) sx).2.1 ≠ 0 := hc3
 have hfin : kidsT f ts st = ((wrT f (nd h u) sx).1, (wrT f (nd h u) sx).2.1, []) := by rw [← hpk]; exact kids_err hw0
 exact J.sr <| JL.mv (t2 rfl) <| JL.as Ev.c <| JL.as (t1 rfl) <| JL.nr <| At.nextR <| At.blkR <| At.nextR <| At.loopR <| At.blkR <| At.nextR <| At.ret ((none, 0)) (trivial) (ResV.two rfl (t1 rfl) (t0 rfl)) (by rw [hfin]; rfl) (fun _ s => by rw [hfin]; exact row_nil 91 2 (Stars.sel (by repeat constructor) s))
 intro hc3
 have hw0 : (wrT f (nd h u) sx).2.1 = 0 := by simpa using hc3
 refine J.skip <| At.next <| J.region <| JL.mv (t15 rfl) <| JL.rd (Rd.ldB Tryz.isAgg91 Tryz.sizeOf91 (t4 rfl) (by repeat constructor) (by first | rfl | assumption | simp_all)) ?_
 refine JL.ef (Ef.slit1 elt_89 (t0 rfl) rfl rfl (by decide) ?_)
 intro b4
 refine JL.ef (Ef.appS elt_89 (t2 rfl) (t0 rfl) (by repeat constructor) (by first | (apply SIn.row; (repeat constructor); done) | (apply SIn.rowR; (repeat constructor); done) | (apply SIn.bytes; (repeat constructor); done) | (apply hA; (repeat constructor); done)) (by first | (simp; done) | (simp; omega) | omega | (simp [*]; done) | (simp [*]; omega)) (by first | (simp; done) | (simp; omega) | omega | (simp [*]; done) | (simp [*]; omega)) (by simp [Value.oneCell', str]) (by first | omega | (simp; omega)) (by first | (simp only [maxLen]; omega) | (simp [maxLen]; omega)) ?_)
 intro a5 c6
 refine JL.as (t0 rfl) <| JL.nil <| At.blkN <| At.next <| J.region <| JL.rd (Rd.add (t19 rfl) Ev.c (w64 (by omega) (by omega))) ?_
 refine JL.mv (t0 rfl) <| JL.nil ?_
 rw [show str y = str (fk h u) by rw [hy hw0, fk_nd]]
 rw [kcs_snoc ks (fk h u, (wrT f (nd h u) sx).2.2, nrm h u)]
 refine At.again ((x + 1, (wrT f (nd h u) sx).1, ks ++ [(fk h u, (wrT f (nd h u) sx).2.2, nrm h u)], a5, c6)) ?_ ?_ ⟨lk0.trans (by first | with_reducible rfl | (congr 1; omega) | (simp; done) | (simp [*]; done)), (lk2 rfl).trans (by first | with_reducible rfl | (congr 1; omega) | (simp; done) | (simp [*]; done)), trivial⟩ ⟨(lk23 rfl), (lk24 rfl), (lk25 rfl), (lk26 rfl), (lk27 rfl), trivial⟩ (fun _ => Stars.sel (by repeat constructor))
 exact ⟨by show x + 1 ≤ n; omega, (kids_go hw0).symm.trans hpk, by show (ks ++ [_]).length = x + 1; rw [List.length_append, hkl]; rfl, (wrT_ext f (nd h u) sx).ok hokx⟩
 show n - (x + 1) < n - x; omega
 intro hc1
 obtain rfl : n = x := by omega
 rw [List.drop_of_length_le (by omega)] at hpk
 have hfin : kidsT f ts st = (sx, 0, ks) := by rw [← hpk]; unfold preK kidsT; simp
 exact J.exit <| At.nextX <| At.loopX <| At.blkX <| At.next <| J.sr <| JL.mv (t2 rfl) <| JL.as (t0 rfl) <| JL.as Ev.c <| JL.nr <| At.ret ((b, cp)) (trivial) (ResV.two rfl (t1 rfl) (t0 rfl)) (by rw [hfin]; show _ = Value.tuple #[.slice b ks.length cp, .int .i64 0]; rw [hkl]) (fun _ s => by rw [hfin]; exact Stars.sel (by repeat constructor) s)
end Go.Proofs.YtbhladkbnleeoaaGreat

namespace Go.Proofs.YtbhladkbnleeoaaGreat

theorem keyAt_len {h : Nat} {x : List (Kt h)} (hx : ∀ p ∈ x, kdOk (kdp p)) (i : Nat) : (keyAt x i).length ≤ 112 := by
  unfold keyAt
  cases e : x[i]? with
  | none => exact Nat.zero_le _
  | some p => exact (hx p (List.mem_of_getElem? e)).1
theorem setK0_ok {h : Nat} {l : List (Kt h)} {k : Bs} (hk : k.length ≤ 112) (hl : ∀ p ∈ l, kdOk (kdp p)) : ∀ p ∈ setK0 k l, kdOk (kdp p) := by
  intro p hp
  cases l with
  | nil => cases hp
  | cons q l =>
    rcases List.mem_cons.1 hp with rfl | hp
    · exact ⟨hk, (hl q (List.mem_cons_self ..)).2⟩
    · exact hl p (List.mem_cons_of_mem _ hp)
@[simp] theorem setK0_length {h : Nat} (k : Bs) (l : List (Kt h)) : (setK0 k l).length = l.length := by cases l <;> rfl
def midK {h : Nat} (x ks : List (Kt h)) (fr to : Nat) : List (Kt h) := x.take fr ++ setK0 (keyAt x fr) ks ++ x.drop to
theorem midK_ok {h : Nat} {x ks : List (Kt h)} {fr to : Nat} (hx : ∀ p ∈ x, kdOk (kdp p)) (hk : ∀ p ∈ ks, kdOk (kdp p)) (hft : fr ≤ to) : (∀ p ∈ midK x ks fr to, kdOk (kdp p)) ∧ (midK x ks fr to).length ≤ x.length + ks.length := by
  refine ⟨fun p hp => ?_, ?_⟩
  · unfold midK at hp
    rcases List.mem_append.1 hp with hp | hp
    · rcases List.mem_append.1 hp with hp | hp
      · exact hx p (List.mem_of_mem_take hp)
      · exact setK0_ok (keyAt_len hx fr) hk p hp
    · exact hx p (List.mem_of_mem_drop hp)
  · unfold midK
    simp only [List.length_append, setK0_length, List.length_take, List.length_drop]
    omega
theorem endT_ok {f h : Nat} (hf : f ≤ 1073741824) {x : List (Kt h)} {l : List (Tr h)} {fr to : Nat} {st : BSt} (hx : ∀ p ∈ x, kdOk (kdp p)) (hl : TsG l) (hs : StOk st) (hft : fr ≤ to) :
    Ext f st (endT f x l fr to st).1 ∧ (endT f x l fr to st).1.gn = st.gn ∧ TsG (endT f x l fr to st).2.2 ∧ (endT f x l fr to st).2.2.length ≤ x.length + l.length := by
  obtain ⟨k1, k2, k3, k4, k5⟩ := kidsT_ok hf l st hl hs
  unfold endT
  split
  · exact ⟨k1, k2, (by intro t ht; cases ht), Nat.zero_le _⟩
  · obtain ⟨m1, m2⟩ := midK_ok (fr := fr) (to := to) hx k3 hft
    obtain ⟨p1, p2⟩ := packK_ok m1
    refine ⟨k1, k2, p1, Nat.le_trans p2 ?_⟩
    omega
theorem nd_kids {h : Nat} {x : Tr (h + 1)} (hx : NdG (nd (h + 1) x)) : (∀ p ∈ (asK x), kdOk (kdp p)) ∧ (asK x).length ≤ 126 ∧ (asK x) ≠ [] := by
  have hl := hx.len
  obtain ⟨h1, h2, h3⟩ := hx
  refine ⟨fun p hp => h2 (kdp p) (List.mem_map.2 ⟨p, hp, rfl⟩), by have : (nd (h + 1) x).count = (List.map kdp (asK x)).length := rfl; rw [this, List.length_map] at hl; exact hl, fun e => h1 (by show List.map kdp (asK x) = []; rw [e]; rfl)⟩
theorem join2_ok {h : Nat} {a b : Tr h} {k : Bs} (ha : NdG (nd h a)) (hb : NdG (nd h b)) (hk : k.length ≤ 112) : TsG (join2 h a b k) ∧ (join2 h a b k).length ≤ 252 := by
  cases h with
  | zero => exact ⟨(by intro t ht; cases ht), Nat.zero_le _⟩
  | succ h =>
    obtain ⟨a1, a2, _⟩ := nd_kids ha
    obtain ⟨b1, b2, _⟩ := nd_kids hb
    have hm : ∀ p ∈ asK a ++ setK0 k (asK b), kdOk (kdp p) := fun p hp => by
      rcases List.mem_append.1 hp with hp | hp
      · exact a1 p hp
      · exact setK0_ok hk b1 p hp
    obtain ⟨p1, p2⟩ := packK_ok hm
    refine ⟨p1, Nat.le_trans p2 ?_⟩
    show (asK a ++ setK0 k (asK b)).length ≤ 252
    rw [List.length_append, setK0_length]
    omega
theorem edS_ok {mk l : List It} {key : Bs} (hm : ∀ e ∈ mk, itOk e) (hm1 : mk.length ≤ 1) (hl : ∀ e ∈ l, itOk e) : (∀ e ∈ edS mk key l, itOk e) ∧ (edS mk key l).length ≤ l.length + 1 := by
  refine ⟨fun e he => (edS_mem he).elim (hm e) (hl e), ?_⟩
  unfold edS
  simp only [List.length_append, List.length_take, List.length_drop]
  have := find_le l key
  omega
theorem joinT_ok {f h : Nat} (hf : f ≤ 1073741824) {x : List (Kt h)} {i : Nat} {r : BSt × Int × List (Tr h)} (hx : ∀ p ∈ x, kdOk (kdp p)) (hp : ∀ p ∈ x, NdG (nd h p.2.2)) (hl : TsG r.2.2) (hs : StOk r.1) :
    Ext f r.1 (joinT f x i r).1 ∧ (joinT f x i r).1.gn.length ≤ r.1.gn.length + 1 ∧ TsG (joinT f x i r).2.2 ∧ (joinT f x i r).2.2.length ≤ x.length + 252 := by
  unfold joinT
  split
  · rename_i o a ho ha
    have hao : NdG (nd h a) := hl a (by rw [ha]; exact List.mem_singleton.2 rfl)
    have hoo := hp o (List.mem_of_getElem? ho)
    have e0 := Ext.gone f r.1 o.2.1
    have g0 : (goneT r.1 o.2.1).gn.length = r.1.gn.length + 1 := by show (r.1.gn ++ [o.2.1]).length = _; simp
    split
    · exact ⟨e0, Nat.le_of_eq g0, (by intro t ht; cases ht), Nat.zero_le _⟩
    · split
      · obtain ⟨j1, j2⟩ := join2_ok hao hoo (keyAt_len hx 1)
        obtain ⟨q1, q2, q3, q4⟩ := endT_ok hf (fr := 0) (to := 2) hx j1 (e0.ok hs) (by omega)
        exact ⟨e0.trans q1, by rw [q2, g0]; exact Nat.le_refl _, q3, by omega⟩
      · obtain ⟨j1, j2⟩ := join2_ok hoo hao (keyAt_len hx i)
        obtain ⟨q1, q2, q3, q4⟩ := endT_ok hf (fr := i - 1) (to := i + 1) hx j1 (e0.ok hs) (by omega)
        exact ⟨e0.trans q1, by rw [q2, g0]; exact Nat.le_refl _, q3, by omega⟩
  · exact ⟨Ext.refl _ _, Nat.le_succ _, (by intro t ht; cases ht), Nat.zero_le _⟩
theorem replT_ok {f : Nat} {key : Bs} {mk : List It} (hf : f ≤ 1073741824) (hm : ∀ e ∈ mk, itOk e) (hm1 : mk.length ≤ 1) : ∀ (h : Nat) (t : Tr h) (b : Nat) (st : BSt), Hd f st.D st.s h t b → StOk st →
    Ext f st (replT f key mk h t b st).1 ∧ (replT f key mk h t b st).1.gn.length ≤ st.gn.length + 2 * h + 1 ∧ TsG (replT f key mk h t b st).2.2 ∧ (replT f key mk h t b st).2.2.length ≤ 128 * (h + 3) := by
  intro h
  induction h with
  | zero =>
    intro t b st hH hs
    have e0 := Ext.gone f st b
    have g0 : (goneT st b).gn.length = st.gn.length + 1 := by show (st.gn ++ [b]).length = _; simp
    have ho : NdOk (.leaf t) := hH.2.2.1
    obtain ⟨d1, d2⟩ := edS_ok (key := key) hm hm1 ho.2.1
    obtain ⟨p1, p2⟩ := packL_ok d1
    have hl : List.length (α := It) t ≤ 126 := ho.g.len
    unfold replT
    split
    · exact ⟨e0, by rw [g0]; omega, (by intro t ht; cases ht), Nat.zero_le _⟩
    · refine ⟨e0, by rw [g0]; omega, p1, ?_⟩
      show (packL (edS mk key t)).length ≤ _
      omega
  | succ h ih =>
    intro t b st hH hs
    have e0 := Ext.gone f st b
    have g0 : (goneT st b).gn.length = st.gn.length + 1 := by show (st.gn ++ [b]).length = _; simp
    obtain ⟨k1, k2, _⟩ := nd_kids hH.2.2.1.g
    have hsub : ∀ p ∈ (asK t), Hd f st.D st.s h p.2.2 p.2.1 := hH.2.2.2.2
    have hg : ∀ p ∈ (asK t), NdG (nd h p.2.2) := fun p hp => (hsub p hp).top.2.2.1.g
    unfold replT
    split
    · exact ⟨e0, by rw [g0]; omega, (by intro t ht; cases ht), Nat.zero_le _⟩
    · split
      · exact ⟨e0, by rw [g0]; omega, (by intro t ht; cases ht), Nat.zero_le _⟩
      · rename_i c hc
        obtain ⟨i1, i2, i3, i4⟩ := ih c.2.2 c.2.1 (goneT st b) (hsub c (List.mem_of_getElem? hc)) (e0.ok hs)
        rw [g0] at i2
        generalize replT f key mk h c.2.2 c.2.1 (goneT st b) = r at i1 i2 i3 i4 ⊢
        split
        · exact ⟨e0.trans i1, by show r.1.gn.length ≤ _; omega, (by intro t ht; cases ht), Nat.zero_le _⟩
        · split
          · obtain ⟨j1, j2, j3, j4⟩ := joinT_ok hf (i := childF (asK t) key) k1 hg i3 (i1.ok (e0.ok hs))
            exact ⟨(e0.trans i1).trans j1, by omega, j3, by omega⟩
          · obtain ⟨q1, q2, q3, q4⟩ := endT_ok hf (fr := childF (asK t) key) (to := childF (asK t) key + 1) k1 i3 (i1.ok (e0.ok hs)) (by omega)
            exact ⟨(e0.trans i1).trans q1, by rw [q2]; omega, q3, by omega⟩
/-- The leaf to which a key leads. -/
def leafAt (key : Bs) : (h : Nat) → Tr h → List It
  | 0, l => l
  | h + 1, x => match (asK x)[childF (asK x) key]? with
    | none => []
    | some c => leafAt key h c.2.2
end Go.Proofs.YtbhladkbnleeoaaGreat

namespace Go.Proofs.YtbhladkbnleeoaaGreat
set_option maxRecDepth 100000
attribute [local irreducible] J JL At Rd Ef DNew DCar DRun Then RetQ LoopQ

theorem nodesM_sub {xs : List NdV} {l : List Assn} {h : Frag} : ∀ {ys : List NdV}, (∀ x ∈ ys, x ∈ xs) → Stars (nodesM xs :: l) h → Stars (nodesM ys :: nodesM xs :: l) h := by
  intro ys
  induction ys with
  | nil => intro _ st; exact nodesM_nil st
  | cons y ys ih =>
    intro hm st
    have s1 := ih (fun x hx => hm x (List.mem_cons_of_mem _ hx)) st
    obtain ⟨hc, s2⟩ := nodesM_mem (hm y (List.mem_cons_self ..)) (Stars.swap s1)
    have s3 := nodesM_one hc s2
    exact nodesM_append (xs := [y]) (Stars.perm (List.Perm.cons _ (List.Perm.swap _ _ _)) s3)
theorem row_capS {a : Option Addr} {cap s : Nat} {e : TypeId} {xs : List (List Value)} {l : List Assn} {h : Frag} (st : Stars (row a cap e s xs :: l) h) : xs.length ≤ cap := by
  obtain ⟨h1, h2, p, _⟩ := st
  unfold row at p
  obtain ⟨_, ⟨_, rfl, rfl⟩ | ⟨_, _, _, _, _, _, _, _, h, _⟩⟩ := p
  · exact Nat.le_refl _
  · exact h
theorem J.node {P : Program} {C : Cx} {Q : Exit → Act → World → Prop} {ρ : Env} {c : Code} {a : Option Addr} {cap : Nat} {e : TypeId} {xs : List (List Value)} {hs hs1 : List Assn} (n : Nd) (hn : (⟨a, cap, n⟩ : NdV).cells = xs) (t : Take (row a cap e 2 xs) hs hs1) (k : xs.length ≤ cap → J P C c Q ρ (nodesM [⟨a, cap, n⟩] :: hs1)) : J P C c Q ρ hs := by
  subst hn
  refine J.know (fun h s => row_capS (Stars.perm t.perm s)) fun hc => ?_
  exact J.demote t (J.weak (fun _ s => nodesM_one hc s) (k hc))
theorem lit2s (a1 a2 : Option Addr) (n1 n2 c1 c2 : Nat) : ∀ w, (Instr.buildSlice 138 2 [(0, Value.slice a1 n1 c1), (1, .slice a2 n2 c2)].toArray).run Tryz.prog w = .ok (.slice (some ⟨w.heap.size, 0, none⟩) 2 2) (w.alloc (.cells [Value.slice a1 n1 c1, .slice a2 n2 c2].toArray 85)) := fun w => by kernel_rfl
theorem lit3s (a1 a2 a3 : Option Addr) (n1 n2 n3 c1 c2 c3 : Nat) : ∀ w, (Instr.buildSlice 138 3 [(0, Value.slice a1 n1 c1), (1, .slice a2 n2 c2), (2, .slice a3 n3 c3)].toArray).run Tryz.prog w = .ok (.slice (some ⟨w.heap.size, 0, none⟩) 3 3) (w.alloc (.cells [Value.slice a1 n1 c1, .slice a2 n2 c2, .slice a3 n3 c3].toArray 85)) := fun w => by kernel_rfl
theorem lit2i2 (a1 a2 : Option Addr) (n1 n2 c1 c2 : Nat) : ∀ w, (Instr.buildSlice 179 2 [(0, Value.slice a1 n1 c1), (1, .slice a2 n2 c2)].toArray).run Tryz.prog w = .ok (.slice (some ⟨w.heap.size, 0, none⟩) 2 2) (w.alloc (.cells [Value.slice a1 n1 c1, .slice a2 n2 c2].toArray 89)) := fun w => by kernel_rfl
theorem lit3i2 (a1 a2 a3 : Option Addr) (n1 n2 n3 c1 c2 c3 : Nat) : ∀ w, (Instr.buildSlice 179 3 [(0, Value.slice a1 n1 c1), (1, .slice a2 n2 c2), (2, .slice a3 n3 c3)].toArray).run Tryz.prog w = .ok (.slice (some ⟨w.heap.size, 0, none⟩) 3 3) (w.alloc (.cells [Value.slice a1 n1 c1, .slice a2 n2 c2, .slice a3 n3 c3].toArray 89)) := fun w => by kernel_rfl
def NdV.cut (x : NdV) (i k : Nat) : NdV := ⟨subA x.a 2 i x.cap, x.cap - i, match x.n with | .leaf l => .leaf ((l.drop i).take k) | .inner l => .inner ((l.drop i).take k)⟩
theorem NdV.cut_cells (x : NdV) (i k : Nat) : (x.cut i k).cells = (x.cells.drop i).take k := by
  obtain ⟨a, c, n⟩ := x
  cases n <;> simp [NdV.cut, NdV.cells, List.map_drop, List.map_take]
/-- A part of a node's slice. -/
theorem nodesM_cut {x : NdV} (i k : Nat) (hk : i ≤ x.cells.length) {l : List Assn} {h : Frag} (st : Stars (nodesM [x] :: l) h) : Stars (nodesM [x.cut i k] :: nodesM [x] :: l) h := by
  obtain ⟨hc, s1⟩ := nodesM_mem (x := x) (List.mem_singleton.2 rfl) st
  have s2 := rowR_cut i k x.cap hc s1
  rw [← NdV.cut_cells] at s2
  have s3 := nodesM_one (x := x.cut i k) (by rw [NdV.cut_cells, List.length_take, List.length_drop]; show _ ≤ x.cap - i; omega) s2
  exact (Stars.swap s3).tail

theorem NdV.sval_cut (x : NdV) (i k : Nat) : (x.cut i k).sval = .slice (subA x.a 2 i x.cap) ((x.cells.drop i).take k).length (x.cap - i) := by
  unfold NdV.sval
  rw [NdV.cut_cells]
  rfl
theorem pre3 {X L : NdV} {R : Assn} (i j : Nat) (hj : j ≤ X.cells.length) {h : Frag} (st : Stars [R, nodesM [X], nodesM [L]] h) : Stars [R, nodesM [X.cut 0 i, L, X.cut j (X.cells.length - j)]] h := by
  have s1 : Stars [nodesM [X], nodesM [L], R] h := Stars.perm (List.perm_append_comm (l₁ := [R])) st
  have s2 := Stars.swap (nodesM_cut 0 i (Nat.zero_le _) s1)
  have s3 := nodesM_cut j (X.cells.length - j) hj s2
  have s4 : Stars [nodesM [L], nodesM [X.cut j (X.cells.length - j)], nodesM [X.cut 0 i], R] h := Stars.sel (.cons (.there (.there (.there .here))) (.cons .here (.cons (.there .here) (.cons (.there .here) .nil)))) s3
  have s5 := Stars.swap (nodesM_append s4)
  exact Stars.swap (nodesM_append s5)
theorem pre2 {X : NdV} {R : Assn} (i j : Nat) (hj : j ≤ X.cells.length) {h : Frag} (st : Stars [R, nodesM [X]] h) : Stars [R, nodesM [X.cut 0 i, X.cut j (X.cells.length - j)]] h := by
  have s2 := Stars.swap (nodesM_cut 0 i (Nat.zero_le _) (Stars.swap st))
  have s3 := nodesM_cut j (X.cells.length - j) hj s2
  have s4 : Stars [nodesM [X.cut 0 i], nodesM [X.cut j (X.cells.length - j)], R] h := Stars.sel (.cons (.there (.there .here)) (.cons .here (.cons (.there .here) .nil))) s3
  exact Stars.swap (nodesM_append s4)
theorem lcat3 (bl : Nat) (X L : NdV) (i j n nL : Nat) (hn : X.cells.length = n) (hnL : L.cells.length = nL) (hi : i ≤ X.cells.length) (hj : j ≤ X.cells.length) (ht : X.cells.length * 2 + L.cells.length ≤ 1048576) :
    Fn Tryz.prog 35 [.slice (some ⟨bl, 0, none⟩) 3 3] [row (some ⟨bl, 0, none⟩) 3 85 1 [[Value.slice X.a i X.cap], [.slice L.a nL L.cap], [.slice (subA X.a 2 j X.cap) (n - j) (X.cap - j)]], nodesM [X], nodesM [L]] (X := Option Addr × Nat) (fun _ => True) (fun x => .slice x.1 (X.cells.take i ++ L.cells ++ X.cells.drop j).length x.2) (fun x => [row x.1 x.2 64 2 (X.cells.take i ++ L.cells ++ X.cells.drop j)]) := by
  subst hn hnL
  have hsv : svals [X.cut 0 i, L, X.cut j (X.cells.length - j)] = [[Value.slice X.a i X.cap], [.slice L.a L.cells.length L.cap], [.slice (subA X.a 2 j X.cap) (X.cells.length - j) (X.cap - j)]] := by
    simp only [svals, List.map_cons, List.map_nil, NdV.sval_cut, subA_zero, List.drop_zero, List.length_take, List.length_drop, Nat.sub_zero]
    rw [Nat.min_eq_left hi, Nat.min_self]
    rfl
  have hcc : catC [X.cut 0 i, L, X.cut j (X.cells.length - j)] = (X.cells.take i ++ L.cells ++ X.cells.drop j) := by
    simp only [catC, List.flatMap_cons, List.flatMap_nil, NdV.cut_cells, List.drop_zero, List.append_nil, List.append_assoc]
    rw [List.take_of_length_le (l := X.cells.drop j) (by simp)]
  refine (lcat_any (some ⟨bl, 0, none⟩) 3 3 [X.cut 0 i, L, X.cut j (X.cells.length - j)] rfl (by decide) (by rw [hcc]; simp; omega) (row (some ⟨bl, 0, none⟩) 3 85 1 (svals [X.cut 0 i, L, X.cut j (X.cells.length - j)])) (fun t => SIn.row t)).cv (fun _ st => by rw [hsv]; exact pre3 i j hj st) (fun x _ => by rw [hcc]) fun x _ _ st => ?_
  rw [hcc] at st
  exact Stars.sel (.cons .here .nil) st
theorem lcat2 (bl : Nat) (X : NdV) (i j n : Nat) (hn : X.cells.length = n) (hi : i ≤ X.cells.length) (hj : j ≤ X.cells.length) (ht : X.cells.length * 2 ≤ 1048576) :
    Fn Tryz.prog 35 [.slice (some ⟨bl, 0, none⟩) 2 2] [row (some ⟨bl, 0, none⟩) 2 85 1 [[Value.slice X.a i X.cap], [.slice (subA X.a 2 j X.cap) (n - j) (X.cap - j)]], nodesM [X]] (X := Option Addr × Nat) (fun _ => True) (fun x => .slice x.1 (X.cells.take i ++ X.cells.drop j).length x.2) (fun x => [row x.1 x.2 64 2 (X.cells.take i ++ X.cells.drop j)]) := by
  subst hn
  have hsv : svals [X.cut 0 i, X.cut j (X.cells.length - j)] = [[Value.slice X.a i X.cap], [.slice (subA X.a 2 j X.cap) (X.cells.length - j) (X.cap - j)]] := by
    simp only [svals, List.map_cons, List.map_nil, NdV.sval_cut, subA_zero, List.drop_zero, List.length_take, List.length_drop, Nat.sub_zero]
    rw [Nat.min_eq_left hi, Nat.min_self]
  have hcc : catC [X.cut 0 i, X.cut j (X.cells.length - j)] = (X.cells.take i ++ X.cells.drop j) := by
    simp only [catC, List.flatMap_cons, List.flatMap_nil, NdV.cut_cells, List.drop_zero, List.append_nil]
    rw [List.take_of_length_le (l := X.cells.drop j) (by simp)]
  refine (lcat_any (some ⟨bl, 0, none⟩) 2 2 [X.cut 0 i, X.cut j (X.cells.length - j)] rfl (by decide) (by rw [hcc]; simp; omega) (row (some ⟨bl, 0, none⟩) 2 85 1 (svals [X.cut 0 i, X.cut j (X.cells.length - j)])) (fun t => SIn.row t)).cv (fun _ st => by rw [hsv]; exact pre2 i j hj st) (fun x _ => by rw [hcc]) fun x _ _ st => ?_
  rw [hcc] at st
  exact Stars.sel (.cons .here .nil) st

theorem icat3 (bl : Nat) (X L : NdV) (i j n nL : Nat) (hn : X.cells.length = n) (hnL : L.cells.length = nL) (hi : i ≤ X.cells.length) (hj : j ≤ X.cells.length) (ht : X.cells.length * 2 + L.cells.length ≤ 1048576) :
    Fn Tryz.prog 84 [.slice (some ⟨bl, 0, none⟩) 3 3] [row (some ⟨bl, 0, none⟩) 3 89 1 [[Value.slice X.a i X.cap], [.slice L.a nL L.cap], [.slice (subA X.a 2 j X.cap) (n - j) (X.cap - j)]], nodesM [X], nodesM [L]] (X := Option Addr × Nat) (fun _ => True) (fun x => .slice x.1 (X.cells.take i ++ L.cells ++ X.cells.drop j).length x.2) (fun x => [row x.1 x.2 91 2 (X.cells.take i ++ L.cells ++ X.cells.drop j)]) := by
  subst hn hnL
  have hsv : svals [X.cut 0 i, L, X.cut j (X.cells.length - j)] = [[Value.slice X.a i X.cap], [.slice L.a L.cells.length L.cap], [.slice (subA X.a 2 j X.cap) (X.cells.length - j) (X.cap - j)]] := by
    simp only [svals, List.map_cons, List.map_nil, NdV.sval_cut, subA_zero, List.drop_zero, List.length_take, List.length_drop, Nat.sub_zero]
    rw [Nat.min_eq_left hi, Nat.min_self]
    rfl
  have hcc : catC [X.cut 0 i, L, X.cut j (X.cells.length - j)] = (X.cells.take i ++ L.cells ++ X.cells.drop j) := by
    simp only [catC, List.flatMap_cons, List.flatMap_nil, NdV.cut_cells, List.drop_zero, List.append_nil, List.append_assoc]
    rw [List.take_of_length_le (l := X.cells.drop j) (by simp)]
  refine (icat_any (some ⟨bl, 0, none⟩) 3 3 [X.cut 0 i, L, X.cut j (X.cells.length - j)] rfl (by decide) (by rw [hcc]; simp; omega) (row (some ⟨bl, 0, none⟩) 3 89 1 (svals [X.cut 0 i, L, X.cut j (X.cells.length - j)])) (fun t => SIn.row t)).cv (fun _ st => by rw [hsv]; exact pre3 i j hj st) (fun x _ => by rw [hcc]) fun x _ _ st => ?_
  rw [hcc] at st
  exact Stars.sel (.cons .here .nil) st
theorem has_lt2 {l : List It} {key : Bs} (h : hasF l key = true) : findF l key < l.length := by
  unfold hasF at h
  have h := of_decide_eq_true h
  by_cases hx : findF l key < l.length
  · exact hx
  · rw [List.getElem?_eq_none (by omega)] at h; cases h
theorem edS_has {mk l : List It} {key : Bs} (h : hasF l key = true) : edS mk key l = l.take (findF l key) ++ mk ++ l.drop (findF l key + 1) := by unfold edS; rw [if_pos h]
theorem edS_not {mk l : List It} {key : Bs} (h : hasF l key = false) : edS mk key l = l.take (findF l key) ++ mk ++ l.drop (findF l key) := by unfold edS; rw [h]; rfl
set_option maxHeartbeats 400000 in
theorem put1_any (bk bv : Nat) (key val : Bs) (a : Option Addr) (cap : Nat) (l : List It) (hs : sorted l) (hc : l.length ≤ cap) (hl : l.length ≤ 10000) :
    Fn Tryz.prog 42 [.slice a l.length cap, .pointer (some ⟨bk, 0, none⟩), .pointer (some ⟨bv, 0, none⟩)] [rowR a 2 (l.map itc), pts bk (.cells [str key].toArray 9), pts bv (.cells [str val].toArray 9)] (X := Option Addr × Nat) (fun x => (edS [(key, val)] key l).length ≤ x.2) (fun x => .slice x.1 (edS [(key, val)] key l).length x.2) (fun x => [rowR x.1 2 ((edS [(key, val)] key l).map itc), pts bk (.cells [str key].toArray 9), pts bv (.cells [str val].toArray 9)]) := by
 refine Fn.mk' (n := 39) (l := [(0, .slice a l.length cap), (1, .pointer (some ⟨bk, 0, none⟩)), (2, .pointer (some ⟨bv, 0, none⟩))]) (fn := Tryz.f42) Tryz.func42 (by kernel_rfl) rfl rfl (by simp) rfl ?_
 intro h0 w0
 refine J.sr <| JL.as Ev.c <| JL.n4 <| JL.mv (t1 rfl) <| JL.rd (Rd.ldN Tryz.isAgg9 (t3 rfl) (by repeat constructor) (by repeat constructor)) ?_
 refine JL.ef (Ef.call (.cons (t1 rfl) (.cons (t0 rfl) .nil)) (find_any a cap l key hs (by omega)) (by repeat constructor) ?_)
 rintro - -
 simp only [cA, nA]
 refine JL.mv (t0 rfl) <| JL.e (t0 rfl) <| JL.e (t1 rfl) <| JL.as (t1 rfl) <| JL.as (t1 rfl) <| JL.n5 <| JL.mv (t0 rfl) <| JL.n2 <| J.cond (t0 rfl) ?_ ?_
 intro hc1
 have hh : hasF l key = true := hc1
 have hlt := has_lt2 hh
 have hed := edS_has (mk := [(key, val)]) hh
 refine J.seq <| J.weak (fun _ s => nodesM_one (x := (⟨a, cap, .leaf l⟩ : NdV)) (by show (l.map itc).length ≤ cap; rw [List.length_map]; exact hc) (Stars.perm (Take.perm (A := rowR a 2 (l.map itc)) (by repeat constructor)) s)) ?_
 refine J.draw [⟨false, 0, 1⟩, ⟨false, 0, 1⟩, ⟨false, 0, 1⟩, lz, lz, lz, ⟨true, 0, 0⟩, ⟨false, 0, 1⟩, ⟨false, 0, 1⟩, ⟨false, 0, 1⟩, ⟨false, 0, 1⟩, ⟨true, 1, 1⟩, ⟨true, 2, 2⟩, ⟨false, 3, 3⟩] [6, 11, 12] mixed rfl <| DRun.at [] [0, 1, 2, 3, 4, 5, 7, 8, 9, 10] rfl rfl ?_ ?_
 exact .nil
 refine DNew.rd rfl (Rd.move (t10 rfl)) <| DNew.rd rfl (Rd.move (t3 rfl)) <| DNew.rd rfl (Rd.slToN Tryz.runUnderlying85 Tryz.sizeOf64 (t1 rfl) (t0 rfl) (by omega)) ?_
 refine DNew.rd rfl (Rd.ldN Tryz.isAgg9 (t14 rfl) (by repeat constructor) (by repeat constructor)) ?_
 refine DNew.rd rfl (Rd.ldN Tryz.isAgg9 (t16 rfl) (by repeat constructor) (by repeat constructor)) ?_
 refine DNew.rd rfl (Rd.buildS (.cons (t1 rfl) (.cons (t0 rfl) .nil)) bld_64 (by repeat (first | exact FillN.nil | apply FillN.one rfl rfl (by repeat constructor)))) ?_
 refine DNew.rd rfl (Rd.move (t16 rfl)) <| DNew.rd rfl (Rd.move (t9 rfl)) <| DNew.rd rfl (Rd.add (t0 rfl) Ev.c (w64 (by omega) (by omega))) ?_
 rw [show ((findF l key : Int) + 1) = ((findF l key + 1 : Nat) : Int) from rfl]
 refine DNew.rd rfl (Rd.slFrom Tryz.runUnderlying85 Tryz.sizeOf64 (t2 rfl) (t0 rfl) (by omega)) ?_
 refine DNew.nil <| DRun.ef rfl (Ef.csqI (Ef.slit1 elt_85 (t4 rfl) rfl rfl (by decide) fun bl => ⟨nodesM [(⟨some ⟨bl, 0, none⟩, 1, .leaf [(key, val)]⟩ : NdV)] :: _, fun w i => (Inv.demote .here i).mono (fun _ s => nodesM_one (x := (⟨some ⟨bl, 0, none⟩, 1, .leaf [(key, val)]⟩ : NdV)) (Nat.le_refl 1) s), ?_⟩))
 refine DRun.at [0, 1, 2, 7, 8, 9, 10] [] rfl rfl ?_ ?_
 refine DCar.rd rfl (lk10 rfl) (Rd.move (t21 rfl)) <| DCar.rd rfl (lk9 rfl) (Rd.move (t13 rfl)) <| DCar.rd rfl (lk8 rfl) (Rd.slToN Tryz.runUnderlying85 Tryz.sizeOf64 (t10 rfl) (t9 rfl) (by omega)) ?_
 refine DCar.rd rfl (lk4 rfl) (Rd.move (t21 rfl)) <| DCar.rd rfl (lk3 rfl) (Rd.move (t13 rfl)) <| DCar.rd rfl (lk2 rfl) (Rd.add (t3 rfl) Ev.c (w64 (by omega) (by omega))) ?_
 refine DCar.rd rfl (lk1 rfl) (Rd.slFrom Tryz.runUnderlying85 Tryz.sizeOf64 (t4 rfl) (t2 rfl) (by omega)) ?_
 exact .nil
 refine DNew.nil <| DRun.ef rfl (Ef.litR (us := [[.slice a (findF l key) cap], [.slice (some ⟨bl, 0, none⟩) 1 1], [.slice (subA a 2 (findF l key + 1) cap) (l.length - (findF l key + 1)) (cap - (findF l key + 1))]]) (.cons (t8 rfl) (.cons (t0 rfl) (.cons (t1 rfl) .nil))) (lit3s _ _ _ _ _ _ _ _ _) (fun x hx => by simp at hx; rcases hx with rfl | rfl | rfl <;> rfl) rfl rfl (by decide) ?_)
 intro br
 refine DRun.at [] [] rfl rfl ?_ ?_
 exact .nil
 refine DNew.nil <| DRun.ef rfl (Ef.call (.cons (t0 rfl) .nil) (lcat3 br (⟨a, cap, .leaf l⟩ : NdV) (⟨some ⟨bl, 0, none⟩, 1, .leaf [(key, val)]⟩ : NdV) (findF l key) (findF l key + 1) l.length 1 (List.length_map _) rfl (by show _ ≤ (l.map itc).length; rw [List.length_map]; omega) (by show _ ≤ (l.map itc).length; rw [List.length_map]; omega) (by show (l.map itc).length * 2 + ([(key, val)].map itc).length ≤ 1048576; simp; omega)) (by repeat constructor) ?_)
 rintro ⟨ra, rc⟩ -
 simp only [cA, nA]
 refine DRun.end [] [13] rfl rfl ?_ ?_
 exact .nil
 refine DNew.rd rfl (Rd.assign (t0 rfl)) <| DNew.n2 <| J.ret <| At.nextR <| At.know (fun h s => row_capS (Stars.sel (pre := [row ra rc 64 2 ((⟨a, cap, .leaf l⟩ : NdV).cells.take (findF l key) ++ (⟨some ⟨bl, 0, none⟩, 1, .leaf [(key, val)]⟩ : NdV).cells ++ (⟨a, cap, .leaf l⟩ : NdV).cells.drop (findF l key + 1))]) (by repeat constructor) s)) ?_
 intro hrc
 refine At.demote (a := ra) (by repeat constructor) ?_
 exact At.ret ((ra, rc)) (by rw [hed]; simpa [NdV.cells] using hrc) (ResV.one rfl (t0 rfl)) (by rw [hed]; simp [NdV.cells]) (fun _ s => by have e : (⟨a, cap, .leaf l⟩ : NdV).cells.take (findF l key) ++ (⟨some ⟨bl, 0, none⟩, 1, .leaf [(key, val)]⟩ : NdV).cells ++ (⟨a, cap, .leaf l⟩ : NdV).cells.drop (findF l key + 1) = (edS [(key, val)] key l).map itc := (by rw [hed]; simp [NdV.cells, List.map_take, List.map_drop]); rw [e] at s; exact Stars.sel (by repeat constructor) s)
 intro hc1
 have hh : hasF l key = false := by simpa using hc1
 have hlt := find_le l key
 have hed := edS_not (mk := [(key, val)]) hh
 refine J.skip <| At.next <| J.seq <| J.weak (fun _ s => nodesM_one (x := (⟨a, cap, .leaf l⟩ : NdV)) (by show (l.map itc).length ≤ cap; rw [List.length_map]; exact hc) (Stars.perm (Take.perm (A := rowR a 2 (l.map itc)) (by repeat constructor)) s)) ?_
 refine J.draw [⟨false, 0, 1⟩, ⟨false, 0, 1⟩, ⟨false, 0, 1⟩, lz, lz, lz, ⟨true, 0, 0⟩, ⟨false, 0, 1⟩, ⟨false, 0, 1⟩, ⟨false, 0, 1⟩, ⟨true, 1, 1⟩, ⟨true, 2, 2⟩, ⟨false, 3, 3⟩] [6, 10, 11] mixed rfl <| DRun.at [] [0, 1, 2, 3, 4, 5, 7, 8, 9] rfl rfl ?_ ?_
 exact .nil
 refine DNew.rd rfl (Rd.move (t10 rfl)) <| DNew.rd rfl (Rd.move (t3 rfl)) <| DNew.rd rfl (Rd.slToN Tryz.runUnderlying85 Tryz.sizeOf64 (t1 rfl) (t0 rfl) (by omega)) ?_
 refine DNew.rd rfl (Rd.ldN Tryz.isAgg9 (t14 rfl) (by repeat constructor) (by repeat constructor)) ?_
 refine DNew.rd rfl (Rd.ldN Tryz.isAgg9 (t16 rfl) (by repeat constructor) (by repeat constructor)) ?_
 refine DNew.rd rfl (Rd.buildS (.cons (t1 rfl) (.cons (t0 rfl) .nil)) bld_64 (by repeat (first | exact FillN.nil | apply FillN.one rfl rfl (by repeat constructor)))) ?_
 refine DNew.rd rfl (Rd.move (t16 rfl)) <| DNew.rd rfl (Rd.move (t9 rfl)) <| DNew.rd rfl (Rd.slFrom Tryz.runUnderlying85 Tryz.sizeOf64 (t1 rfl) (t0 rfl) (by omega)) ?_
 refine DNew.nil <| DRun.ef rfl (Ef.csqI (Ef.slit1 elt_85 (t3 rfl) rfl rfl (by decide) fun bl => ⟨nodesM [(⟨some ⟨bl, 0, none⟩, 1, .leaf [(key, val)]⟩ : NdV)] :: _, fun w i => (Inv.demote .here i).mono (fun _ s => nodesM_one (x := (⟨some ⟨bl, 0, none⟩, 1, .leaf [(key, val)]⟩ : NdV)) (Nat.le_refl 1) s), ?_⟩))
 refine DRun.at [0, 1, 2, 7, 8, 9] [] rfl rfl ?_ ?_
 refine DCar.rd rfl (lk9 rfl) (Rd.move (t20 rfl)) <| DCar.rd rfl (lk8 rfl) (Rd.move (t12 rfl)) <| DCar.rd rfl (lk7 rfl) (Rd.slToN Tryz.runUnderlying85 Tryz.sizeOf64 (t9 rfl) (t8 rfl) (by omega)) ?_
 refine DCar.rd rfl (lk3 rfl) (Rd.move (t20 rfl)) <| DCar.rd rfl (lk2 rfl) (Rd.move (t12 rfl)) <| DCar.rd rfl (lk1 rfl) (Rd.slFrom Tryz.runUnderlying85 Tryz.sizeOf64 (t3 rfl) (t2 rfl) (by omega)) ?_
 exact .nil
 refine DNew.nil <| DRun.ef rfl (Ef.litR (us := [[.slice a (findF l key) cap], [.slice (some ⟨bl, 0, none⟩) 1 1], [.slice (subA a 2 (findF l key) cap) (l.length - (findF l key)) (cap - (findF l key))]]) (.cons (t7 rfl) (.cons (t0 rfl) (.cons (t1 rfl) .nil))) (lit3s _ _ _ _ _ _ _ _ _) (fun x hx => by simp at hx; rcases hx with rfl | rfl | rfl <;> rfl) rfl rfl (by decide) ?_)
 intro br
 refine DRun.at [] [] rfl rfl ?_ ?_
 exact .nil
 refine DNew.nil <| DRun.ef rfl (Ef.call (.cons (t0 rfl) .nil) (lcat3 br (⟨a, cap, .leaf l⟩ : NdV) (⟨some ⟨bl, 0, none⟩, 1, .leaf [(key, val)]⟩ : NdV) (findF l key) (findF l key) l.length 1 (List.length_map _) rfl (by show _ ≤ (l.map itc).length; rw [List.length_map]; omega) (by show _ ≤ (l.map itc).length; rw [List.length_map]; omega) (by show (l.map itc).length * 2 + ([(key, val)].map itc).length ≤ 1048576; simp; omega)) (by repeat constructor) ?_)
 rintro ⟨ra, rc⟩ -
 simp only [cA, nA]
 refine DRun.end [] [12] rfl rfl ?_ ?_
 exact .nil
 refine DNew.rd rfl (Rd.assign (t0 rfl)) <| DNew.n2 <| J.ret <| At.know (fun h s => row_capS (Stars.sel (pre := [row ra rc 64 2 ((⟨a, cap, .leaf l⟩ : NdV).cells.take (findF l key) ++ (⟨some ⟨bl, 0, none⟩, 1, .leaf [(key, val)]⟩ : NdV).cells ++ (⟨a, cap, .leaf l⟩ : NdV).cells.drop (findF l key))]) (by repeat constructor) s)) ?_
 intro hrc
 refine At.demote (a := ra) (by repeat constructor) ?_
 exact At.ret ((ra, rc)) (by rw [hed]; simpa [NdV.cells] using hrc) (ResV.one rfl (t0 rfl)) (by rw [hed]; simp [NdV.cells]) (fun _ s => by have e : (⟨a, cap, .leaf l⟩ : NdV).cells.take (findF l key) ++ (⟨some ⟨bl, 0, none⟩, 1, .leaf [(key, val)]⟩ : NdV).cells ++ (⟨a, cap, .leaf l⟩ : NdV).cells.drop (findF l key) = (edS [(key, val)] key l).map itc := (by rw [hed]; simp [NdV.cells, List.map_take, List.map_drop]); rw [e] at s; exact Stars.sel (by repeat constructor) s)

set_option maxHeartbeats 400000 in
theorem delete1_any (bk : Nat) (key : Bs) (a : Option Addr) (cap : Nat) (l : List It) (hs : sorted l) (hc : l.length ≤ cap) (hl : l.length ≤ 10000) (hh : hasF l key = true) :
    Fn Tryz.prog 34 [.slice a l.length cap, .pointer (some ⟨bk, 0, none⟩)] [rowR a 2 (l.map itc), pts bk (.cells [str key].toArray 9)] (X := Option Addr × Nat) (fun x => (edS [] key l).length ≤ x.2) (fun x => .slice x.1 (edS [] key l).length x.2) (fun x => [rowR x.1 2 ((edS [] key l).map itc), pts bk (.cells [str key].toArray 9)]) := by
 refine Fn.mk' (n := 21) (l := [(0, .slice a l.length cap), (1, .pointer (some ⟨bk, 0, none⟩))]) (fn := Tryz.f34) Tryz.func34 (by kernel_rfl) rfl rfl (by simp) rfl ?_
 intro h0 w0
 have hlt := has_lt2 hh
 have hed := edS_has (mk := []) hh
 rw [List.append_nil] at hed
 refine J.sr <| JL.as Ev.c <| JL.n4 <| JL.mv (t1 rfl) <| JL.rd (Rd.ldN Tryz.isAgg9 (t3 rfl) (by repeat constructor) (by repeat constructor)) ?_
 refine JL.ef (Ef.call (.cons (t1 rfl) (.cons (t0 rfl) .nil)) (find_any a cap l key hs (by omega)) (by repeat constructor) ?_)
 rintro - -
 simp only [cA, nA]
 refine JL.mv (t0 rfl) <| JL.e (t0 rfl) <| JL.e (t1 rfl) <| JL.as (t1 rfl) <| JL.as (t1 rfl) <| JL.ns <| J.weak (fun _ s => nodesM_one (x := (⟨a, cap, .leaf l⟩ : NdV)) (by show (l.map itc).length ≤ cap; rw [List.length_map]; exact hc) (Stars.perm (Take.perm (A := rowR a 2 (l.map itc)) (by repeat constructor)) s)) ?_
 refine J.draw [lz, lz, lz, lz, lz, lz, lz, ⟨true, 0, 0⟩, ⟨true, 1, 1⟩, ⟨false, 2, 2⟩] [7, 8] mixed rfl <| DRun.at [] [0, 1, 2, 3, 4, 5, 6] rfl rfl ?_ ?_
 exact .nil
 refine DNew.rd rfl (Rd.move (t9 rfl)) <| DNew.rd rfl (Rd.move (t2 rfl)) <| DNew.rd rfl (Rd.slToN Tryz.runUnderlying85 Tryz.sizeOf64 (t1 rfl) (t0 rfl) (by omega)) ?_
 refine DNew.rd rfl (Rd.move (t12 rfl)) <| DNew.rd rfl (Rd.move (t5 rfl)) <| DNew.rd rfl (Rd.add (t0 rfl) Ev.c (w64 (by omega) (by omega))) ?_
 rw [show ((findF l key : Int) + 1) = ((findF l key + 1 : Nat) : Int) from rfl]
 refine DNew.rd rfl (Rd.slFrom Tryz.runUnderlying85 Tryz.sizeOf64 (t2 rfl) (t0 rfl) (by omega)) ?_
 refine DNew.nil <| DRun.ef rfl (Ef.litR (us := [[.slice a (findF l key) cap], [.slice (subA a 2 (findF l key + 1) cap) (l.length - (findF l key + 1)) (cap - (findF l key + 1))]]) (.cons (t4 rfl) (.cons (t0 rfl) .nil)) (lit2s _ _ _ _ _ _) (fun x hx => by simp at hx; rcases hx with rfl | rfl <;> rfl) rfl rfl (by decide) ?_)
 intro br
 refine DRun.at [] [] rfl rfl ?_ ?_
 exact .nil
 refine DNew.nil <| DRun.ef rfl (Ef.call (.cons (t0 rfl) .nil) (lcat2 br (⟨a, cap, .leaf l⟩ : NdV) (findF l key) (findF l key + 1) l.length (List.length_map _) (by show _ ≤ (l.map itc).length; rw [List.length_map]; omega) (by show _ ≤ (l.map itc).length; rw [List.length_map]; omega) (by show (l.map itc).length * 2 ≤ 1048576; simp; omega)) (by repeat constructor) ?_)
 rintro ⟨ra, rc⟩ -
 simp only [cA, nA]
 refine DRun.end [] [9] rfl rfl ?_ ?_
 exact .nil
 refine DNew.rd rfl (Rd.assign (t0 rfl)) <| DNew.n2 <| J.ret <| At.know (fun h s => row_capS (Stars.sel (pre := [row ra rc 64 2 ((⟨a, cap, .leaf l⟩ : NdV).cells.take (findF l key) ++ (⟨a, cap, .leaf l⟩ : NdV).cells.drop (findF l key + 1))]) (by repeat constructor) s)) ?_
 intro hrc
 refine At.demote (a := ra) (by repeat constructor) ?_
 exact At.ret ((ra, rc)) (by rw [hed]; simpa [NdV.cells] using hrc) (ResV.one rfl (t0 rfl)) (by rw [hed]; simp [NdV.cells]) (fun _ s => by have e : (⟨a, cap, .leaf l⟩ : NdV).cells.take (findF l key) ++ (⟨a, cap, .leaf l⟩ : NdV).cells.drop (findF l key + 1) = (edS [] key l).map itc := (by rw [hed]; simp [NdV.cells, List.map_take, List.map_drop]); rw [e] at s; exact Stars.sel (by repeat constructor) s)
end Go.Proofs.YtbhladkbnleeoaaGreat

