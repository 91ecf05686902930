/-
  Ranging over a function whose memory lies with what the rounds keep. No program in it.
-/
import Derived.Test.YtfnoaohbjlnkgaaB4
namespace Go.Proofs.Ytfnoaohbjlnkgaa

/-- An iterator's contract, when it begins by reading pk, which the rounds may change. -/
def IterP (P : Program) (gf : FuncId) (cap : List Value) (own pk : List Assn) (xs : List (List Value)) (own' : List Assn) : Prop :=
  ∀ (l : Nat) (J Jx : Nat → List Assn) (F : List Assn), (∀ h, Stars (J 0) h ↔ Stars (pk ++ F) h) → (∀ k x, xs[k]? = some x → Yields P l x (J k) (J (k + 1)) (Jx k)) →
    Fn P gf (.func (.yield l) #[] #[] :: cap) (own ++ J 0) (X := Option Nat) (fun z => ∀ k, z = some k → k < xs.length) (fun _ => .tuple #[])
      (fun z => match z with | none => own' ++ J xs.length | some k => own' ++ Jx k)

/-- THE RULE. I k: between two rounds, k of them being over; Ix k c: round k has left by the jump c. -/
theorem J.rangeFuncP {P : Program} {n : Nat} {ds : List Deferred} {h0 : Frag} {w0 : World} {Q : Exit → Act → World → Prop} {ρ : Env} {hs rest : List Assn} {f : Operand} {ps : List Tmp} {assign body : Code} {gf : FuncId} {cap : List Value}
    {own own' pk F : List Assn} {xs : List (List Value)} (I : Nat → List Assn) (Ix : Nat → Code → List Assn)
    (hf : Ev n ρ f (.func (.func gf) #[] cap.toArray)) (it : IterP P gf cap own pk xs own') (he : Ent P gf) (sel : Sel own hs rest) (hps : ∀ x ∈ xs, x.length = ps.length) (h0I : ∀ h, Stars rest h → Stars (I 0) h) (hpk : ∀ h, Stars (I 0) h ↔ Stars (pk ++ F) h)
    (round : ∀ l r0 fn k x h0 w0, xs[k]? = some x → J P ⟨n, some l, [], h0, w0⟩ assign
      (AsgQ P l body (RndQ P l h0 w0 (pts l (lrec fn (act n ds ρ).tmps ps assign body r0 .ready none) :: I (k + 1)) [exL fun c => pts l (lrec fn (act n ds ρ).tmps ps assign body r0 .done (some c)) :: Ix k c]))
      (setp (ps.zip x) ρ) (pts l (lrec fn (act n ds ρ).tmps ps assign body r0 .ready none) :: I k))
    (done : ∀ r0, At ⟨n, none, markOf r0 :: ds, h0, w0⟩ Q .normal ρ (pts r0 (.deferred (some [])) :: (own' ++ I xs.length)))
    (stop : ∀ r0 k c, k < xs.length → J P ⟨n, none, markOf r0 :: ds, h0, w0⟩ c Q ρ (pts r0 (.deferred (some [])) :: (own' ++ Ix k c))) :
    J P ⟨n, none, ds, h0, w0⟩ (.rangeFunc f ps.toArray assign body) Q ρ hs := by
  intro w hi
  refine wpIn_rangeFunc fun fn _ => ?_
  have hi1 := hi.alloc (.deferred (some []))
  have hs1 : (w.alloc (.deferred (some []))).heap.size = w.heap.size + 1 := by simp
  have hi2 := hi1.alloc (lrec fn (act n ds ρ).tmps ps assign body w.heap.size .ready none)
  rw [hs1] at hi2
  generalize hw2 : (w.alloc (.deferred (some []))).alloc (lrec fn (act n ds ρ).tmps ps assign body w.heap.size .ready none) = w2 at hi2
  have henter : (Instr.enterLoop fn (act n ds ρ).tmps ps.toArray assign body none).run P w = .ok (w.heap.size + 1, [markOf w.heap.size]) w2 := by
    rw [← hw2]
    have e : ∀ (o : Obj) (w : World), (newObj o).run P w = .ok w.heap.size (w.alloc o) := fun _ _ => rfl
    simp only [Instr.enterLoop, Sem.run_bind, Sem.run_pure, e, Result.andThen, hs1]
    rfl
  have hev := hf ds
  refine ⟨w.heap.size + 1, [markOf w.heap.size], w2, { target := .fn (.func gf) cap.toArray, args := #[.func (.yield (w.heap.size + 1)) #[] #[]] }, w2, gf, (.func (.yield (w.heap.size + 1)) #[] #[] :: cap).toArray, w2, henter, ?_, fun _ _ => trivial, ?_, fun hd => by simp [wideR] at hd, ?_⟩
  · show (resolve (act n ds ρ).eval (rangeCall f (w.heap.size + 1)) 0).run P w2 = _
    simp only [resolve, rangeCall, hev, Deferred.ofValue]
    simp [Act.eval]
  · show (callFunc gf (#[.func (.yield (w.heap.size + 1)) #[] #[]] ++ cap.toArray)).run P w2 = _
    rw [run_callFunc he]
    simp
  · rw [callsIn_wideR]
    have hy := it (w.heap.size + 1) (fun k => pts (w.heap.size + 1) (lrec fn (act n ds ρ).tmps ps assign body w.heap.size .ready none) :: I k)
      (fun k => [exL fun c => pts (w.heap.size + 1) (lrec fn (act n ds ρ).tmps ps assign body w.heap.size .done (some c)) :: Ix k c])
      (pts (w.heap.size + 1) (lrec fn (act n ds ρ).tmps ps assign body w.heap.size .ready none) :: F)
      (fun h => ⟨fun s => by
        have s1 : Stars ([pts (w.heap.size + 1) (lrec fn (act n ds ρ).tmps ps assign body w.heap.size .ready none)] ++ I 0) h := s
        exact Stars.perm List.perm_middle.symm (Stars.app_right (fun h s => (hpk h).1 s) s1), fun s => by
        have s1 : Stars ([pts (w.heap.size + 1) (lrec fn (act n ds ρ).tmps ps assign body w.heap.size .ready none)] ++ (pk ++ F)) h := by
          refine Stars.perm ?_ s
          rw [List.singleton_append]
          exact List.perm_middle
        exact Stars.app_right (m := [pts (w.heap.size + 1) (lrec fn (act n ds ρ).tmps ps assign body w.heap.size .ready none)]) (fun h s => (hpk h).2 s) s1⟩) (by
        intro k x hx w3 h3 s3 b3
        have hg : w3.heap[w.heap.size + 1]? = some (lrec fn (act n ds ρ).tmps ps assign body w.heap.size .ready none) := Blk.get .own s3 b3
        have hlen : x.length = ps.length := hps x (List.mem_of_getElem? hx)
        refine ⟨fn, (act n ds (setp (ps.zip x) ρ)).tmps, assign, body, ?_, ?_⟩
        · unfold Instr.yield
          simp only [Sem.run_bind, run_getLoop hg, Result.andThen]
          have h1 : x.toArray.size = ps.toArray.size := by simpa using hlen
          rw [if_neg (by simpa using h1)]
          rw [← setp_tmps]
          have hz : ps.toArray.zip x.toArray = (ps.zip x).toArray := by simp
          rw [hz]
          simp [Sem.run_pure]
        · have hj := round (w.heap.size + 1) w.heap.size fn k x h3 w3 hx w3 (Inv.start _ s3 b3)
          exact roundIn_of_wpIn trivial hj)
    have hsel : Inv h0 w0 ((own ++ (pts (w.heap.size + 1) (lrec fn (act n ds ρ).tmps ps assign body w.heap.size .ready none) :: I 0)) ++ [pts w.heap.size (.deferred (some []))]) w2 := by
      refine Inv.mono hi2 fun h st => ?_
      have p1 : (pts (w.heap.size + 1) (lrec fn (act n ds ρ).tmps ps assign body w.heap.size .ready none) :: pts w.heap.size (.deferred (some [])) :: hs).Perm
          ((pts (w.heap.size + 1) (lrec fn (act n ds ρ).tmps ps assign body w.heap.size .ready none) :: pts w.heap.size (.deferred (some [])) :: own) ++ rest) :=
        List.Perm.cons _ (List.Perm.cons _ sel.perm)
      have st2 := Stars.app_right h0I (Stars.perm p1 st)
      refine Stars.perm ?_ st2
      rw [List.cons_append, List.cons_append, List.append_assoc, List.cons_append]
      refine List.Perm.trans ?_ List.perm_middle.symm
      refine List.Perm.cons _ ?_
      rw [← List.append_assoc]
      exact (List.perm_append_singleton _ _).symm
    obtain ⟨h1, s1, b1, fr⟩ := Inv.split hsel
    refine (hy.calls w2 h1 s1 b1).mono ?_
    rintro e w3 ⟨z, h', hz, rfl, s', b', f'⟩
    cases z with
    | none =>
      have hi3 := fr h' w3 _ s' b' f'
      have hbl : Blk (w.heap.size + 1) (lrec fn (act n ds ρ).tmps ps assign body w.heap.size .ready none) (pts (w.heap.size + 1) (lrec fn (act n ds ρ).tmps ps assign body w.heap.size .ready none) :: (own' ++ I xs.length ++ [pts w.heap.size (.deferred (some []))])) := .own
      have hi4 : Inv h0 w0 (pts (w.heap.size + 1) (lrec fn (act n ds ρ).tmps ps assign body w.heap.size .ready none) :: (own' ++ I xs.length ++ [pts w.heap.size (.deferred (some []))])) w3 := by
        refine Inv.perm ?_ hi3
        show ((own' ++ (pts (w.heap.size + 1) (lrec fn (act n ds ρ).tmps ps assign body w.heap.size .ready none) :: I xs.length)) ++ [pts w.heap.size (.deferred (some []))]).Perm _
        rw [List.append_assoc, List.cons_append, List.append_assoc]
        exact List.perm_middle
      have hg := hbl.inv hi4
      refine ⟨none, setBlk w3 (w.heap.size + 1) (lrec fn (act n ds ρ).tmps ps assign body w.heap.size .exhausted none), ?_, ?_⟩
      · unfold Instr.endLoop
        simp only [Sem.run_bind, run_getLoop hg, Result.andThen]
        rw [if_neg (by decide)]
        simp only [Sem.run_bind, run_setLoop hg, Result.andThen, Sem.run_pure]
        rfl
      · refine done w.heap.size _ ?_
        have hi5 := hi4.upd (o' := lrec fn (act n ds ρ).tmps ps assign body w.heap.size .exhausted none) .here
        exact (hi5.mono fun h st => st.tail).perm (List.perm_append_singleton _ _)
    | some k =>
      have hi3 := fr h' w3 _ s' b' f'
      have hi3' : Inv h0 w0 (exL (fun c => pts (w.heap.size + 1) (lrec fn (act n ds ρ).tmps ps assign body w.heap.size .done (some c)) :: Ix k c) :: (own' ++ [pts w.heap.size (.deferred (some []))])) w3 := by
        refine Inv.perm ?_ hi3
        show ((own' ++ [exL fun c => pts (w.heap.size + 1) (lrec fn (act n ds ρ).tmps ps assign body w.heap.size .done (some c)) :: Ix k c]) ++ [pts w.heap.size (.deferred (some []))]).Perm _
        rw [List.append_assoc]
        exact List.perm_middle
      obtain ⟨c, hi4⟩ := Inv.openE hi3'
      rw [List.cons_append] at hi4
      have hg := Blk.inv .own hi4
      refine ⟨some c, setBlk w3 (w.heap.size + 1) (lrec fn (act n ds ρ).tmps ps assign body w.heap.size .exhausted (some c)), ?_, ?_⟩
      · unfold Instr.endLoop
        simp only [Sem.run_bind, run_getLoop hg, Result.andThen]
        rw [if_neg (by decide)]
        simp only [Sem.run_bind, run_setLoop hg, Result.andThen, Sem.run_pure]
        rfl
      · refine stop w.heap.size k c (hz k rfl) _ ?_
        have hi5 := hi4.upd (o' := lrec fn (act n ds ρ).tmps ps assign body w.heap.size .exhausted (some c)) .here
        refine (hi5.mono fun h st => st.tail).perm ?_
        rw [← List.append_assoc]
        refine List.Perm.trans (List.perm_append_singleton _ _) (List.Perm.cons _ List.perm_append_comm)

theorem IterP.of {P : Program} {gf : FuncId} {cap : List Value} {own own' pk : List Assn} {xs : List (List Value)} {n : Nat} (hn : xs.length = n)
    (f : ∀ (l : Nat) (J Jx : Nat → Assn) (F : List Assn), (∀ h, J 0 h ↔ Stars (pk ++ F) h) → (∀ k x, xs[k]? = some x → Yields P l x [J k] [J (k + 1)] [Jx k]) →
      Fn P gf (.func (.yield l) #[] #[] :: cap) (own ++ [J 0]) (X := Option Nat) (fun z => ∀ k, z = some k → k < n) (fun _ => .tuple #[])
      (fun z => own' ++ [match z with | none => J n | some k => Jx k])) : IterP P gf cap own pk xs own' := by
  subst hn
  intro l J Jx F hpk hy
  have g := f l (fun k => Stars (J k)) (fun k => Stars (Jx k)) F hpk (fun k x hx w h s b => by
    have s' : Stars (J k) h := Stars.wrap (m := []).1 s
    obtain ⟨fn, tmps, as, bo, hr, hR⟩ := hy k x hx w h s' b
    refine ⟨fn, tmps, as, bo, hr, hR.mono ?_⟩
    rintro e w' ⟨c, h', rfl, t, d, e⟩
    refine ⟨c, h', rfl, ?_, d, e⟩
    cases c
    · exact Stars.wrap (m := []).2 t
    · exact Stars.wrap (m := []).2 t)
  refine ⟨g.ent, fun w h s b => (g.calls w h (Stars.wrap.2 s) b).mono ?_⟩
  rintro e w' ⟨z, h', hz, rfl, t, d, e⟩
  refine ⟨z, h', hz, rfl, ?_, d, e⟩
  cases z
  · exact Stars.wrap.1 t
  · exact Stars.wrap.1 t

end Go.Proofs.Ytfnoaohbjlnkgaa
