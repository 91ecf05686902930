/-
  Walks, printed by mk.py.
-/
import Derived.Test.YtfnoaohbjlnkgaaR10
import Derived.Test.YtfnoaohbjlnkgaaB6
namespace Go.Proofs.Ytfnoaohbjlnkgaa
attribute [local irreducible] J JL At Rd Ef DNew DCar DRun Then RetQ LoopQ


theorem eqgP : Try.prog.eqGuardType Try.prog.depth 86 = false := by kernel_rfl
theorem stoodP : Try.prog.stoodInHeld 86 = false := by kernel_rfl
theorem take_all {l : List Value} {n : Nat} (h : l.length = n) : l.take n = l := List.take_of_length_le (Nat.le_of_eq h)
theorem part_bv {P : Program} {t : TypeId} {n : Nat} {v : Value} {l : List UInt8} (ha : ∀ w, (isAgg t).run P w = .ok true w) (hz : ∀ w, (sizeOf t).run P w = .ok n w) (hl : l.length = n) (w : World) : (part t ((v :: bv l).toArray) 1).run P w = .ok (.agg (bv l).toArray) w := by
  simp only [part, Sem.run_bind, ha w, hz w, Result.andThen]
  have : ((v :: bv l).toArray).extract 1 (1 + n) = (bv l).toArray := by
    simp [List.extract_toArray, ← hl, Nat.add_comm]
    rw [← bv_length l, List.take_length]
  simp only [if_true, Sem.run_bind, hz w, Result.andThen, this]
  rfl
theorem eqP {p q : Nat × List UInt8} (hp : p.2.length = 512) (hq : q.2.length = 512) : EqAt Try.prog 10000 86 (.agg (pcell p).toArray) (.agg (pcell q).toArray) (decide (p = q)) := by
  have h := EqAt.s2 (P := Try.prog) (k := 9999) (xs := (pcell p).toArray) (ys := (pcell q).toArray) Try.runUnderlying86 stoodP (by decide) (by decide) (x1 := .int .i64 (p.1 : Int)) (y1 := .int .i64 (q.1 : Int)) (x2 := .agg (bv p.2).toArray) (y2 := .agg (bv q.2).toArray)
    (fun w => by simp only [part, Sem.run_bind, Try.isAgg3 w, Result.andThen]; rfl) (part_bv Try.isAgg84 Try.sizeOf84 hp)
    (fun w => by simp only [part, Sem.run_bind, Try.isAgg3 w, Result.andThen]; rfl) (part_bv Try.isAgg84 Try.sizeOf84 hq)
    (EqAt.int Try.runUnderlying3 _ _) (EqAt.arr (k := 9997) Try.runUnderlying84 Try.runUnderlying5 Try.isAgg5 Try.sizeOf5 hp hq)
  have e : (decide ((p.1 : Int) = (q.1 : Int)) && decide (p.2 = q.2)) = decide (p = q) := by
    obtain ⟨p1, p2⟩ := p
    obtain ⟨q1, q2⟩ := q
    rw [← Bool.decide_and, decide_eq_decide]
    constructor
    · rintro ⟨h1, h2⟩
      have h3 : p1 = q1 := Int.ofNat.inj h1
      have h4 : p2 = q2 := h2
      rw [h3, h4]
    · intro h1
      cases h1
      exact ⟨rfl, rfl⟩
  rw [e] at h
  exact h

set_option maxRecDepth 100000 in
set_option maxHeartbeats 400000 in
theorem slequal_any (a a2 : Option Addr) (c c2 : Nat) (l l2 : List (Nat × List UInt8)) (hm : l.length ≤ 1048576) (hl : ∀ p ∈ l, p.2.length = 512) (hl2 : ∀ p ∈ l2, p.2.length = 512) :
    Fn Try.prog 54 [.slice a l.length c, .slice a2 l2.length c2] [row a c 86 513 (l.map pcell), row a2 c2 86 513 (l2.map pcell)] (X := Unit) (fun _ => True) (fun _ => .bool (decide (l = l2))) (fun _ => [row a c 86 513 (l.map pcell), row a2 c2 86 513 (l2.map pcell)]) := by
  refine Fn.mk' (n := 26) (l := [(0, .slice a l.length c), (1, .slice a2 l2.length c2)]) (fn := Try.f54) Try.func54 (by kernel_rfl) rfl rfl (by simp) rfl ?_
  intro h0 w0
  refine J.seq ?_
  refine J.region ?_
  refine JL.rd (Rd.assign Ev.c) ?_
  refine JL.nil ?_
  refine At.next ?_
  refine J.seq ?_
  refine J.seq ?_
  refine J.region ?_
  refine JL.rd (Rd.move (t1 rfl rfl)) ?_
  refine JL.rd (Rd.len Try.runUnderlying79 (t0 rfl)) ?_
  refine JL.rd (Rd.move (t4 rfl rfl)) ?_
  refine JL.rd (Rd.len Try.runUnderlying79 (t0 rfl)) ?_
  refine JL.rd (Rd.neq (t2 rfl rfl) (t0 rfl)) ?_
  refine JL.nil ?_
  refine At.next ?_
  refine J.condD (t0 rfl) ?_ ?_
  · intro hc1
    have hne : ¬ l = l2 := fun e => hc1 (by rw [e])
    refine J.seq ?_
    refine J.region ?_
    refine JL.rd (Rd.assign Ev.c) ?_
    refine JL.nil ?_
    refine At.next ?_
    refine J.ret ?_
    refine At.nextR ?_
    exact At.ret (()) (trivial) (ResV.one rfl (t0 rfl)) (by rw [decide_eq_false hne]) (fun _ => Stars.sel (by repeat (first | exact Sel.nil | apply Sel.cons (by repeat (first | exact .here | apply Take.there)))))
  · intro hc1
    have hll : l.length = l2.length := by omega
    refine J.skip ?_
    refine At.next ?_
    refine J.seq ?_
    refine J.seq ?_
    refine J.region ?_
    refine JL.rd (Rd.move (t6 rfl rfl)) ?_
    refine JL.rd (Rd.len Try.runUnderlying79 (t0 rfl)) ?_
    refine JL.rd (Rd.move Ev.c) ?_
    refine JL.nil ?_
    refine At.next ?_
    refine J.block ?_
    refine J.loop (X := Nat) (fun (x : Nat) => [(13, .int .i64 (x : Int))]) (K := [(12, _), (4, _), (0, _), (1, _)]) (fun x => [row a c 86 513 (l.map pcell), row a2 c2 86 513 (l2.map pcell)]) (fun x => x ≤ l.length ∧ l.take x = l2.take x) (fun x => l.length - x) (0) ?_ ⟨lk0.trans (by first | with_reducible rfl | (congr 1; omega) | (simp; done) | (simp [*]; done)), trivial⟩ ⟨(lk1 rfl), (lk8 rfl), (lk9 rfl), (lk10 rfl), trivial⟩ (fun _ => Stars.sel (by repeat (first | exact Sel.nil | apply Sel.cons (by repeat (first | exact .here | apply Take.there))))) ?_
    · exact ⟨Nat.zero_le _, rfl⟩
    rintro x ρ ⟨hk, htk⟩
    simp only [List.cons_append, List.nil_append]
    refine J.seq ?_
    refine J.region ?_
    refine JL.rd (Rd.lss (t0 rfl) (t1 rfl rfl)) ?_
    refine JL.nil ?_
    refine At.next ?_
    refine J.seq ?_
    refine J.condD (t0 rfl) ?_ ?_
    · intro hc2
      obtain ⟨p, hp⟩ : ∃ p, l[x]? = some p := ⟨_, List.getElem?_eq_getElem (by omega)⟩
      obtain ⟨q, hq⟩ : ∃ q, l2[x]? = some q := ⟨_, List.getElem?_eq_getElem (by omega)⟩
      have hx : (l.map pcell)[(x : Int).toNat]? = some (pcell p) := by simp [hp]
      have hy : (l2.map pcell)[(x : Int).toNat]? = some (pcell q) := by simp [hq]
      have hp2 := hl p (List.mem_of_getElem? hp)
      have hq2 := hl2 q (List.mem_of_getElem? hq)
      have hst : p = q → l.take (x + 1) = l2.take (x + 1) := fun e => by have h1 := List.getElem?_eq_some_iff.1 hp; have h2 := List.getElem?_eq_some_iff.1 hq; rw [List.take_succ_eq_append_getElem h1.1, List.take_succ_eq_append_getElem h2.1, htk, h1.2, h2.2, e]
      refine J.skip ?_
      refine At.next ?_
      refine J.seq ?_
      refine J.block ?_
      refine J.seq ?_
      refine J.region ?_
      refine JL.rd (Rd.move (t1 rfl rfl)) ?_
      refine JL.rd (Rd.assign (t0 rfl)) ?_
      refine JL.nil ?_
      refine At.next ?_
      refine J.seq ?_
      refine J.draw [⟨false, 0, 0⟩, ⟨false, 0, 0⟩, ⟨false, 0, 0⟩, ⟨false, 0, 0⟩, ⟨false, 0, 0⟩, ⟨false, 0, 0⟩, ⟨false, 0, 0⟩, ⟨false, 0, 0⟩, ⟨false, 0, 0⟩] [] mixed rfl ?_
      refine DRun.end [] [0, 1, 2, 3, 4, 5, 6, 7, 8] rfl rfl ?_ ?_
      · exact .nil
      refine DNew.rd rfl (Rd.move (t6 rfl rfl)) ?_
      refine DNew.rd rfl (Rd.move (t1 rfl rfl)) ?_
      refine DNew.rd rfl (Rd.sIdx Try.runUnderlying79 Try.sizeOf86 (t1 rfl rfl) (t0 rfl) (SIn.row (a := a) (by repeat (first | exact .here | apply Take.there))) (by simp) (by omega) (by omega)) ?_
      refine DNew.rd rfl (Rd.sLdA Try.isAgg86 Try.sizeOf86 (t0 rfl) (SIn.row (a := a) (by repeat (first | exact .here | apply Take.there))) hx) ?_
      refine DNew.rd rfl (Rd.move (t11 rfl rfl)) ?_
      refine DNew.rd rfl (Rd.move (t5 rfl rfl)) ?_
      refine DNew.rd rfl (Rd.sIdx Try.runUnderlying79 Try.sizeOf86 (t1 rfl rfl) (t0 rfl) (SIn.row (a := a2) (by repeat (first | exact .here | apply Take.there))) (by simp) (by omega) (by omega)) ?_
      refine DNew.rd rfl (Rd.sLdA Try.isAgg86 Try.sizeOf86 (t0 rfl) (SIn.row (a := a2) (by repeat (first | exact .here | apply Take.there))) hy) ?_
      refine DNew.rd rfl (Rd.neqS (t4 rfl rfl) (t0 rfl) eqgP (eqP hp2 hq2)) ?_
      refine DNew.nil ?_
      refine At.next ?_
      refine J.cond (t0 rfl) ?_ ?_
      · intro hc3
        have hne : ¬ l = l2 := fun e => by rw [e, hq] at hp; cases hp; simp at hc3
        refine J.seq ?_
        refine J.region ?_
        refine JL.rd (Rd.assign Ev.c) ?_
        refine JL.nil ?_
        refine At.next ?_
        refine J.ret ?_
        refine At.blkR ?_
        refine At.nextR ?_
        refine At.loopR ?_
        refine At.blkR ?_
        refine At.nextR ?_
        exact At.ret (()) (trivial) (ResV.one rfl (t0 rfl)) (by rw [decide_eq_false hne]) (fun _ => Stars.sel (by repeat (first | exact Sel.nil | apply Sel.cons (by repeat (first | exact .here | apply Take.there)))))
      · intro hc3
        have hpq : p = q := by simpa using hc3
        refine J.skip ?_
        refine At.blkN ?_
        refine At.next ?_
        refine J.region ?_
        refine JL.rd (Rd.add (t12 rfl rfl) Ev.c (w64 (by omega) (by omega))) ?_
        refine JL.rd (Rd.move (t0 rfl)) ?_
        refine JL.nil ?_
        refine At.again (x + 1) ?_ ?_ ⟨lk0.trans (by first | with_reducible rfl | (congr 1; omega) | (simp; done) | (simp [*]; done)), trivial⟩ ⟨(lk15 rfl), (lk16 rfl), (lk17 rfl), (lk18 rfl), trivial⟩ (fun _ => Stars.sel (by repeat (first | exact Sel.nil | apply Sel.cons (by repeat (first | exact .here | apply Take.there)))))
        · exact ⟨by omega, hst hpq⟩
        · omega
    · intro hc2
      have heq : l = l2 := by have h1 : x = l.length := (by omega); have h2 : x = l2.length := (by omega); have h3 := htk; rw [List.take_of_length_le (by omega), List.take_of_length_le (by omega)] at h3; exact h3
      refine J.exit ?_
      refine At.nextX ?_
      refine At.loopX ?_
      refine At.blkX ?_
      refine At.next ?_
      refine J.seq ?_
      refine J.region ?_
      refine JL.rd (Rd.assign Ev.c) ?_
      refine JL.nil ?_
      refine At.next ?_
      refine J.ret ?_
      exact At.ret (()) (trivial) (ResV.one rfl (t0 rfl)) (by rw [decide_eq_true heq]) (fun _ => Stars.sel (by repeat (first | exact Sel.nil | apply Sel.cons (by repeat (first | exact .here | apply Take.there)))))

noncomputable def eqMapB (mp mq : List (Int × Value)) : Bool := @decide (eqMap mp mq) (Classical.propDecidable _)
theorem eqMapB_true {mp mq : List (Int × Value)} (h : eqMap mp mq) : eqMapB mp mq = true := @decide_eq_true _ (Classical.propDecidable _) h
theorem eqMapB_false {mp mq : List (Int × Value)} (h : ¬ eqMap mp mq) : eqMapB mp mq = false := @decide_eq_false _ (Classical.propDecidable _) h
theorem imap_keys {m : Nat} {mp : List (Int × Value)} {l : List Assn} {h : Frag} (s : Stars (imap m mp :: l) h) : KeysOk mp := by
  obtain ⟨h1, h2, a, _⟩ := s
  unfold imap at a
  obtain ⟨es, clock, _, e⟩ := a
  exact e.keys
/-- The values are blocks. -/
def Blks (mp : List (Int × Value)) : Prop := ∀ p ∈ mp, ∃ s : List UInt8, p.2 = .agg (bv s).toArray ∧ s.length = 512
/-- The entries that were seen lie in the other map as well. -/
def SeenOk (es : Array MapEntry) (seen : Array Nat) (mp mq : List (Int × Value)) : Prop := ∀ e ∈ es.toList, e.born ∈ seen → ∃ p ∈ mp, e.key = .int .i64 p.1 ∧ e.val = p.2 ∧ mget mq p.1 = some p.2
theorem SeenOk.all {es : Array MapEntry} {seen : Array Nat} {clock : Nat} {mp mq : List (Int × Value)} (h : SeenOk es seen mp mq) (he : Ents es clock mp) (h0 : (leftOf es seen).size = 0) : ∀ p ∈ mp, mget mq p.1 = some p.2 := by
  intro p hp
  obtain ⟨e, hm, h1, h2⟩ := he.of hp
  obtain ⟨p', _, h3, h4, h5⟩ := h e hm (left_nil h0 e hm)
  rw [h1] at h3
  have e1 : p.1 = p'.1 := (Value.int.injEq _ _ _ _ ▸ h3).2
  rw [h2] at h4
  rw [h4, e1]; exact h5
theorem nodup_inj {l : List MapEntry} : (l.map (·.born)).Nodup → ∀ {a b : MapEntry}, a ∈ l → b ∈ l → a.born = b.born → a = b := by
  induction l with
  | nil => intro _ a b h; cases h
  | cons x l ih =>
    intro hn a b ha hb e
    obtain ⟨h1, h2⟩ := List.nodup_cons.1 hn
    rcases List.mem_cons.1 ha with rfl | ha' <;> rcases List.mem_cons.1 hb with rfl | hb'
    · rfl
    · exact absurd (by show a.born ∈ _; rw [e]; exact List.mem_map_of_mem hb') h1
    · exact absurd (by show b.born ∈ _; rw [← e]; exact List.mem_map_of_mem ha') h1
    · exact ih h2 ha' hb' e
theorem SeenOk.push {es : Array MapEntry} {seen : Array Nat} {clock : Nat} {mp mq : List (Int × Value)} (h : SeenOk es seen mp mq) (he : Ents es clock mp) {e : MapEntry} (hm : e ∈ es.toList) {p : Int × Value} (hp : p ∈ mp) (h1 : e.key = .int .i64 p.1) (h2 : e.val = p.2) (hq : mget mq p.1 = some p.2) : SeenOk es (seen.push e.born) mp mq := by
  intro e' hm' hs
  rcases Array.mem_push.1 hs with hs | hs
  · exact h e' hm' hs
  · have : e' = e := by
      have hn := he.borns
      exact nodup_inj hn hm' hm hs
    rw [this]
    exact ⟨p, hp, h1, h2, hq⟩

set_option maxRecDepth 100000 in
set_option maxHeartbeats 400000 in
theorem mapsequal_any (m c : Nat) (mp mq : List (Int × Value)) (hp : Blks mp) (hq : Blks mq) :
    Fn Try.prog 53 [.map (some m), .map (some c)] [imap m mp, imap c mq] (X := Unit) (fun _ => True) (fun _ => .bool (eqMapB mp mq)) (fun _ => [imap m mp, imap c mq]) := by
  refine Fn.mk' (n := 34) (l := [(0, .map (some m)), (1, .map (some c))]) (fn := Try.f53) Try.func53 (by kernel_rfl) rfl rfl (by simp) rfl ?_
  intro h0 w0
  refine J.know (fun h s => imap_keys (Stars.sel (pre := [imap m mp]) (by repeat (first | exact Sel.nil | apply Sel.cons (by repeat (first | exact .here | apply Take.there)))) s)) ?_
  intro hkp
  refine J.know (fun h s => imap_keys (Stars.sel (pre := [imap c mq]) (by repeat (first | exact Sel.nil | apply Sel.cons (by repeat (first | exact .here | apply Take.there)))) s)) ?_
  intro hkq
  refine J.seq ?_
  refine J.region ?_
  refine JL.rd (Rd.assign Ev.c) ?_
  refine JL.nil ?_
  refine At.next ?_
  refine J.seq ?_
  refine J.seq ?_
  refine J.region ?_
  refine JL.rd (Rd.move (t1 rfl rfl)) ?_
  refine JL.rd (Rd.lenM Try.runUnderlying78 (t0 rfl) (by repeat (first | exact .here | apply Take.there))) ?_
  refine JL.rd (Rd.move (t4 rfl rfl)) ?_
  refine JL.rd (Rd.lenM Try.runUnderlying78 (t0 rfl) (by repeat (first | exact .here | apply Take.there))) ?_
  refine JL.rd (Rd.neq (t2 rfl rfl) (t0 rfl)) ?_
  refine JL.nil ?_
  refine At.next ?_
  refine J.condD (t0 rfl) ?_ ?_
  · intro hc1
    have hne : ¬ eqMap mp mq := fun e => hc1 (by rw [eqMap_len hkp hkq e])
    refine J.seq ?_
    refine J.region ?_
    refine JL.rd (Rd.assign Ev.c) ?_
    refine JL.nil ?_
    refine At.next ?_
    refine J.ret ?_
    refine At.nextR ?_
    exact At.ret (()) (trivial) (ResV.one rfl (t0 rfl)) (by rw [eqMapB_false hne]) (fun _ => Stars.sel (by repeat (first | exact Sel.nil | apply Sel.cons (by repeat (first | exact .here | apply Take.there)))))
  · intro hc1
    have hll : mp.length = mq.length := by omega
    refine J.skip ?_
    refine At.next ?_
    refine J.seq ?_
    refine J.seq ?_
    refine J.region ?_
    refine JL.rd (Rd.move (t6 rfl rfl)) ?_
    refine JL.ef (Ef.rangeM Try.runUnderlying78 (t0 rfl) (by repeat (first | exact .here | apply Take.there)) ?_)
    intro r2 es3 ck4 hents5
    refine JL.nil ?_
    refine At.next ?_
    refine J.block ?_
    refine J.loop (X := Array Nat) (fun (x : Array Nat) => []) (K := [(15, _), (4, _), (1, _)]) (fun x => [pts r2 (.mapIter (some m) ck4 x ck4), pts m (.map es3 ck4), imap c mq]) (fun x => SeenOk es3 x mp mq) (fun x => (leftOf es3 x).size) (#[]) ?_ trivial ⟨lk0, (lk7 rfl), (lk9 rfl), trivial⟩ (fun _ => Stars.sel (by repeat (first | exact Sel.nil | apply Sel.cons (by repeat (first | exact .here | apply Take.there))))) ?_
    · exact fun e _ h => absurd h (by simp)
    intro seen ρ hseen
    simp only [List.cons_append, List.nil_append]
    refine J.seq ?_
    refine J.region ?_
    refine JL.ef (Ef.next (t0 rfl) (by repeat (first | exact .own | exact .rd | apply Blk.there)) (by repeat (first | exact .here | apply Take.there)) hents5.young ?_ ?_)
    · intro hl6
      have hall := hseen.all hents5 hl6
      refine JL.rd (Rd.extract (t0 rfl) (by repeat (first | exact .zero | apply Nth.succ))) ?_
      refine JL.nil ?_
      refine At.next ?_
      refine J.seq ?_
      refine J.condF (EvB (t0 rfl) rfl) ?_
      refine J.exit ?_
      refine At.nextX ?_
      refine At.loopX ?_
      refine At.blkX ?_
      refine At.next ?_
      refine J.seq ?_
      refine J.region ?_
      refine JL.rd (Rd.assign Ev.c) ?_
      refine JL.nil ?_
      refine At.next ?_
      refine J.ret ?_
      refine At.shutMap hents5 (by repeat (first | exact .here | apply Take.there)) ?_
      exact At.ret (()) (trivial) (ResV.one rfl (t0 rfl)) (by rw [eqMapB_true (eqMap_of hkp hll hall)]) (fun _ => Stars.sel (by repeat (first | exact Sel.nil | apply Sel.cons (by repeat (first | exact .here | apply Take.there)))))
    · intro e7 he8
      obtain ⟨p, hpm, hk, hv⟩ := hents5.at (left_mem he8).1
      obtain ⟨s, hs, hsl⟩ := hp p hpm
      obtain ⟨z, hz, hzl, hzg⟩ : ∃ z : List UInt8, (mget mq p.1).getD (.agg (bv zb).toArray) = .agg (bv z).toArray ∧ z.length = 512 ∧ ((mget mq p.1).isSome = true → s = z → mget mq p.1 = some p.2) := by
              cases hg : mget mq p.1 with
              | none => exact ⟨zb, rfl, zb_length, fun h => by cases h⟩
              | some v => obtain ⟨z, hz, hzl⟩ := hq _ (mget_of hg); exact ⟨z, hz, hzl, fun _ e => by rw [hs, e]; exact congrArg some hz⟩
      refine JL.rd (Rd.extract (t0 rfl) (by repeat (first | exact .zero | apply Nth.succ))) ?_
      refine JL.nil ?_
      refine At.next ?_
      refine J.seq ?_
      refine J.condT (EvB (t0 rfl) rfl) ?_
      refine J.skip ?_
      refine At.next ?_
      refine J.block ?_
      refine J.seq ?_
      refine J.region ?_
      refine JL.ef (Rd.ef (Rd.entry (t2 rfl rfl) (by repeat (first | exact .own | exact .rd | apply Blk.there)) (by repeat (first | exact .own | exact .rd | apply Blk.there)) (left_mem he8).1 hents5.borns) ?_)
      rw [hk, hv, hs]
      refine JL.rd (Rd.extract (t0 rfl) (by repeat (first | exact .zero | apply Nth.succ))) ?_
      refine JL.rd (Rd.extract (t1 rfl rfl) (by repeat (first | exact .zero | apply Nth.succ))) ?_
      refine JL.ef (Ef.alloc zero0 rfl ?_)
      intro b9
      refine JL.rd (Rd.assign (t2 rfl rfl)) ?_
      refine JL.ef0 (Ef.stB Try.sizeOf84 (t1 rfl rfl) (t2 rfl rfl) (by repeat (first | exact .here | apply Rep.there)) (by repeat (first | exact .own | exact .rd | apply Blk.there)) (by first | rfl | assumption | simp_all) (by first | rfl | assumption | simp_all) (by first | exact bv_one _ | exact cons_one rfl (bv_one _) | (simp [Value.oneCell']; done) | (simp [Value.oneCell', str]; done)) (by decide) ?_)
      refine JL.nil ?_
      refine At.next ?_
      refine J.seq ?_
      refine J.region ?_
      refine JL.rd (Rd.move (t9 rfl rfl)) ?_
      refine JL.rd (Rd.move (t1 rfl rfl)) ?_
      refine JL.rd (Rd.lookup2 Try.runUnderlying78 Try.runUnderlying3 zero0 (t1 rfl rfl) (t0 rfl) (by repeat (first | exact .here | apply Take.there))) ?_
      rw [hz]
      refine JL.rd (Rd.move (t0 rfl)) ?_
      refine JL.rd (Rd.extract (t0 rfl) (by repeat (first | exact .zero | apply Nth.succ))) ?_
      refine JL.rd (Rd.extract (t1 rfl rfl) (by repeat (first | exact .zero | apply Nth.succ))) ?_
      refine JL.ef (Ef.alloc zero0 rfl ?_)
      intro b10
      refine JL.ef0 (Ef.stB Try.sizeOf84 (t0 rfl) (t2 rfl rfl) (by repeat (first | exact .here | apply Rep.there)) (by repeat (first | exact .own | exact .rd | apply Blk.there)) (by first | rfl | assumption | simp_all) (by first | rfl | assumption | simp_all) (by first | exact bv_one _ | exact cons_one rfl (bv_one _) | (simp [Value.oneCell']; done) | (simp [Value.oneCell', str]; done)) (by decide) ?_)
      refine JL.rd (Rd.assign (t1 rfl rfl)) ?_
      refine JL.nil ?_
      refine At.next ?_
      refine J.seq ?_
      refine J.region ?_
      refine JL.rd (Rd.move (t0 rfl)) ?_
      refine JL.rd (Rd.not (t0 rfl)) ?_
      refine JL.rd (Rd.move (t0 rfl)) ?_
      refine JL.caseB (t0 rfl) ?_ ?_
      · intro hb11
        refine JL.skG rfl (EvB (t0 rfl) hb11) rfl ?_
        refine JL.skG rfl (EvB (t1 rfl rfl) hb11) rfl ?_
        refine JL.skG rfl (EvB (t2 rfl rfl) hb11) rfl ?_
        refine JL.rd (Rd.pickT (EvB (t3 rfl rfl) hb11) Ev.c) ?_
        refine JL.nil ?_
        refine At.next ?_
        refine J.condT (t0 rfl) ?_
        refine J.seq ?_
        refine J.region ?_
        refine JL.rd (Rd.assign Ev.c) ?_
        refine JL.nil ?_
        refine At.next ?_
        refine J.ret ?_
        refine At.blkR ?_
        refine At.loopR ?_
        refine At.blkR ?_
        refine At.nextR ?_
        refine At.shutMap hents5 (by repeat (first | exact .here | apply Take.there)) ?_
        exact At.ret (()) (trivial) (ResV.one rfl (t0 rfl)) (by rw [eqMapB_false (fun e => by have h1 := e p.1; have h2 : (!(mget mq p.1).isSome) = true := (by assumption); rw [← h1, mget_mem hkp hpm] at h2; cases h2)]) (fun _ => Stars.sel (by repeat (first | exact Sel.nil | apply Sel.cons (by repeat (first | exact .here | apply Take.there)))))
      · intro hb11
        refine JL.rdG rfl (EvB (t0 rfl) hb11) rfl (Rd.ldB Try.isAgg84 Try.sizeOf84 (t12 rfl rfl) (by repeat (first | exact .own | exact .rd | apply Blk.there)) (by first | rfl | assumption | simp_all)) ?_
        refine JL.rdG rfl (EvB (t1 rfl rfl) hb11) rfl (Rd.ldB Try.isAgg84 Try.sizeOf84 (t5 rfl rfl) (by repeat (first | exact .own | exact .rd | apply Blk.there)) (by first | rfl | assumption | simp_all)) ?_
        refine JL.rdG rfl (EvB (t2 rfl rfl) hb11) rfl (Rd.neqA (t1 rfl rfl) (t0 rfl) eqg0 Try.runUnderlying84 Try.runUnderlying5 Try.isAgg5 Try.sizeOf5 (by simp [hsl]) (by simp [hzl])) ?_
        refine JL.rd (Rd.pickF (EvB (t3 rfl rfl) hb11) (t0 rfl)) ?_
        refine JL.nil ?_
        refine At.next ?_
        refine J.condD (t0 rfl) ?_ ?_
        · intro hc12
          refine J.seq ?_
          refine J.region ?_
          refine JL.rd (Rd.assign Ev.c) ?_
          refine JL.nil ?_
          refine At.next ?_
          refine J.ret ?_
          refine At.blkR ?_
          refine At.loopR ?_
          refine At.blkR ?_
          refine At.nextR ?_
          refine At.shutMap hents5 (by repeat (first | exact .here | apply Take.there)) ?_
          exact At.ret (()) (trivial) (ResV.one rfl (t0 rfl)) (by rw [eqMapB_false (fun e => by have h1 := e p.1; rw [mget_mem hkp hpm] at h1; rw [← h1] at hz; have h2 : s ≠ z := (by assumption); exact h2 (bv_agg_inj (hs.symm.trans hz)))]) (fun _ => Stars.sel (by repeat (first | exact Sel.nil | apply Sel.cons (by repeat (first | exact .here | apply Take.there)))))
        · intro hc12
          refine J.skip ?_
          refine At.blkN ?_
          have hgot := hzg (by have h2 : (!(mget mq p.1).isSome) = false := (by assumption); simpa using h2) (by have h3 : ¬ s ≠ z := (by assumption); simpa using h3)
          refine At.again (seen.push e7.born) ?_ ?_ trivial ⟨(lk22 rfl), (lk23 rfl), (lk24 rfl), trivial⟩ (fun _ => Stars.sel (by repeat (first | exact Sel.nil | apply Sel.cons (by repeat (first | exact .here | apply Take.there)))))
          · exact hseen.push hents5 (left_mem he8).1 hpm hk hv hgot
          · exact left_dec he8
end Go.Proofs.Ytfnoaohbjlnkgaa
