/-
  Ranging over a function. No program in it.
-/
import Derived.Test.YtfnoaohbjlnkgaaA9
namespace Go.Proofs.Ytfnoaohbjlnkgaa

/-- Some list of assertions holds. -/
@[irreducible] def exL {X : Type} (L : X → List Assn) : Assn := fun h => ∃ x, Stars (L x) h
theorem exL_mk {X : Type} {L : X → List Assn} (x : X) {l : List Assn} {h : Frag} (s : Stars (L x ++ l) h) : Stars (exL L :: l) h :=
  Stars.shut (L := L x) (fun h t => by unfold exL; exact ⟨x, t⟩) s
theorem exL_open {X : Type} {L : X → List Assn} {l : List Assn} {h : Frag} (s : Stars (exL L :: l) h) : ∃ x, Stars (L x ++ l) h := by
  obtain ⟨h1, h2, a, b, c, rfl⟩ := s
  unfold exL at a
  obtain ⟨x, t⟩ := a
  exact ⟨x, Stars.append.2 ⟨h1, h2, t, b, c, rfl⟩⟩
theorem Inv.openE {X : Type} {L : X → List Assn} {l : List Assn} {h0 : Frag} {w0 w : World} (i : Inv h0 w0 (exL L :: l) w) : ∃ x, Inv h0 w0 (L x ++ l) w := by
  obtain ⟨h, s, b, f⟩ := i
  obtain ⟨x, t⟩ := exL_open s
  exact ⟨x, h, t, b, f⟩
theorem J.openE {P : Program} {C : Cx} {Q : Exit → Act → World → Prop} {ρ : Env} {X : Type} {L : X → List Assn} {hs hs1 : List Assn} {c : Code} (t : Take (exL L) hs hs1) (k : ∀ x, J P C c Q ρ (L x ++ hs1)) : J P C c Q ρ hs := by
  intro w i
  obtain ⟨x, j⟩ := Inv.openE (Inv.perm t.perm i)
  exact k x w j
theorem At.openE {C : Cx} {Q : Exit → Act → World → Prop} {e : Exit} {ρ : Env} {X : Type} {L : X → List Assn} {hs hs1 : List Assn} (t : Take (exL L) hs hs1) (k : ∀ x, At C Q e ρ (L x ++ hs1)) : At C Q e ρ hs := by
  intro w i
  obtain ⟨x, j⟩ := Inv.openE (Inv.perm t.perm i)
  exact k x w j

/-- The record of a loop. -/
def lrec (fn : FuncId) (tmps : Array Value) (ps : List Tmp) (assign body : Code) (r0 : Nat) (st : LoopState) (pd : Option Code) : Obj :=
  .loop { state := st, pending := pd, fn := fn, tmps := tmps, params := ps.toArray, assign := assign, body := body, defers := r0 }

/-- What yield does: a round ends by 'more' or by 'no more'. -/
def Yields (P : Program) (l : Nat) (x : List Value) (pre postT postF : List Assn) : Prop := ∀ w h, Stars pre h → Sub h w →
  ∃ fn tmps assign body, (Instr.yield l x.toArray).run P w = .ok (.round l fn tmps assign body) w ∧
    RoundIn Fence.wide 0 P l fn tmps assign body w fun e w' => ∃ (b : Bool) (h' : Frag), e = .returned (.bool b) ∧ Stars (if b then postT else postF) h' ∧ Sub h' w' ∧ Fr h w h' w'

/-- An iterator's contract: it hands out xs, whatever the rounds keep. -/
def Iter (P : Program) (gf : FuncId) (cap : List Value) (own : List Assn) (xs : List (List Value)) (own' : List Assn) : Prop :=
  ∀ (l : Nat) (J Jx : Nat → List Assn), (∀ k x, xs[k]? = some x → Yields P l x (J k) (J (k + 1)) (Jx k)) →
    Fn P gf (.func (.yield l) #[] #[] :: cap) (own ++ J 0) (X := Option Nat) (fun z => ∀ k, z = some k → k < xs.length) (fun _ => .tuple #[])
      (fun z => match z with | none => own' ++ J xs.length | some k => own' ++ Jx k)

theorem Ef.yield {P : Program} {C : Cx} {hs rest : List Assn} {ρ : Env} {d : Option Tmp} {ty : TypeId} {pos : String} {af : Array Edge} {g : Option (Nat × Bool)} {K : Value → List Assn → Prop}
    {f : Operand} {l : Nat} {x : List Value} {pre postT postF : List Assn} {xs : List Operand} {ats : Array TypeId}
    (hf : Ev C.n ρ f (.func (.yield l) #[] #[])) (ha : EvL C.n ρ xs x) (hy : Yields P l x pre postT postF) (sel : Sel pre hs rest) (kt : K (.bool true) (postT ++ rest)) (kf : K (.bool false) (postF ++ rest)) :
    Ef P C hs ρ ⟨d, .call { callee := .value f, args := xs.toArray, argTypes := ats }, ty, pos, af, g⟩ K := fun w hi => by
  obtain ⟨h1, s1, b1, fr⟩ := Inv.split (hi.perm sel.perm)
  obtain ⟨fn, tmps, as, bo, hr, hR⟩ := hy w h1 s1 b1
  refine .inr (.inr ⟨l, fn, tmps, as, bo, w, ?_, ?_⟩)
  · rw [Oper.semAt_eq _ _ _ (fun c h => by cases h)]
    have h1 := hf C.ds
    have h2 := ha.map C.ds
    show (execOp (act C.n C.ds ρ).eval _).run P w = _
    simp only [execOp, resolve, h1, h2, Deferred.ofValue]
    simp only [Sem.run_bind, Sem.run_pure, Result.andThen, invoke]
    simpa using hr
  · have hR' : RoundIn (wideR C.r) 0 P l fn tmps as bo w _ := hR
    refine hR'.mono ?_
    rintro e w' ⟨b, h', rfl, s', b', f'⟩
    cases b
    · exact ⟨_, _, rfl, fr h' w' postF s' b' f', kf⟩
    · exact ⟨_, _, rfl, fr h' w' postT s' b' f', kt⟩

def setp : List (Nat × Value) → Env → Env
  | [], ρ => ρ
  | (t, v) :: l, ρ => setp l (ext [(t, v)] ρ)
theorem setp_ext (t v l m ρ) : setp ((t, v) :: l) (ext m ρ) = setp l (ext ((t, v) :: m) ρ) := rfl
theorem setp_nil (ρ) : setp [] ρ = ρ := rfl

theorem Stars.app_right {l l' : List Assn} (f : ∀ h, Stars l h → Stars l' h) {m : List Assn} {h : Frag} (s : Stars (m ++ l) h) : Stars (m ++ l') h := by
  obtain ⟨h1, h2, a, b, c, rfl⟩ := Stars.append.1 s
  exact Stars.append.2 ⟨h1, h2, a, f _ b, c, rfl⟩

theorem setp_tmps (n : Nat) (ds : List Deferred) : ∀ (l : List (Nat × Value)) (ρ : Env), l.foldl (fun (tmps : Array Value) p => tmps.setIfInBounds p.1 p.2) (act n ds ρ).tmps = (act n ds (setp l ρ)).tmps := by
  intro l
  induction l with
  | nil => intro ρ; rfl
  | cons p l ih =>
    intro ρ
    rw [List.foldl_cons]
    have : (act n ds ρ).tmps.setIfInBounds p.1 p.2 = (act n ds (ext [(p.1, p.2)] ρ)).tmps := by
      have := congrArg Act.tmps (act_put n ds ρ p.1 p.2)
      exact this
    rw [this, ih]
    rfl

/-- What is asked at the end of a round's assignment, and of its body. -/
def AsgQ (P : Program) (l : Nat) (body : Code) (Q : Exit → Act → World → Prop) : Exit → Act → World → Prop :=
  Exit.then (fun a w => ∃ w2, (Instr.beginRound l).run P w = .ok () w2 ∧ body.wpIn (wideR (some l)) 0 P Q a w2) (fun _ _ _ => False)
def RndQ (P : Program) (l : Nat) (h0 : Frag) (w0 : World) (postT postF : List Assn) : Exit → Act → World → Prop :=
  roundPost P l fun e w' => ∃ (b : Bool) (h' : Frag), e = .returned (.bool b) ∧ Stars (if b then postT else postF) h' ∧ Sub h' w' ∧ Fr h0 w0 h' w'

section
variable {P : Program} {fn : FuncId} {tmps : Array Value} {ps : List Tmp} {assign body : Code} {r0 l : Nat} {w : World}

theorem run_getLoop {st pd} (h : w.heap[l]? = some (lrec fn tmps ps assign body r0 st pd)) : (Instr.getLoop l).run P w =
    .ok { state := st, pending := pd, fn := fn, tmps := tmps, params := ps.toArray, assign := assign, body := body, defers := r0 } w := by
  simp [Instr.getLoop, Sem.run_bind, getObj, Sem.run, h, lrec, Result.andThen]
theorem run_setLoop {st pd} {o : Obj} (h : w.heap[l]? = some (lrec fn tmps ps assign body r0 st pd)) : (setObj l o).run P w = .ok () (setBlk w l o) := by
  simp [setObj, Sem.run, h, lrec, setBlk]

theorem At.asg {n : Nat} {h0 : Frag} {w0 : World} {Q : Exit → Act → World → Prop} {ρ : Env} {hs hs' : List Assn} {pd : Option Code}
    (hb : Blk l (lrec fn tmps ps assign body r0 .ready pd) hs) (hr : Rep (pts l (lrec fn tmps ps assign body r0 .ready pd)) (pts l (lrec fn tmps ps assign body r0 .busy pd)) hs hs')
    (k : J P ⟨n, some l, [], h0, w0⟩ body Q ρ hs') : At ⟨n, some l, [], h0, w0⟩ (AsgQ P l body Q) .normal ρ hs := by
  intro w hi
  have hg := hb.inv hi
  refine ⟨setBlk w l (lrec fn tmps ps assign body r0 .busy pd), ?_, k _ (hi.upd hr)⟩
  unfold Instr.beginRound
  simp only [Sem.run_bind, run_getLoop hg, Result.andThen, run_setLoop hg]
  rfl

theorem run_endRound {st pd} (h : w.heap[l]? = some (lrec fn tmps ps assign body r0 st pd)) (j : Option Code) :
    (Instr.endRound l j).run P w = .ok (.bool j.isNone) (setBlk w l (lrec fn tmps ps assign body r0 (if j.isNone then .ready else .done) j)) := by
  unfold Instr.endRound
  simp only [Sem.run_bind, run_getLoop h, Result.andThen, run_setLoop h]
  rfl

theorem At.rndN {n : Nat} {h0 : Frag} {w0 : World} {postT postF : List Assn} {ρ : Env} {hs hs' : List Assn} {st : LoopState} {pd : Option Code}
    (hb : Blk l (lrec fn tmps ps assign body r0 st pd) hs) (hr : Rep (pts l (lrec fn tmps ps assign body r0 st pd)) (pts l (lrec fn tmps ps assign body r0 .ready none)) hs hs')
    (k : ∀ h, Stars hs' h → Stars postT h) : At ⟨n, some l, [], h0, w0⟩ (RndQ P l h0 w0 postT postF) .normal ρ hs := by
  intro w hi
  have hg := hb.inv hi
  obtain ⟨h, s, b, f⟩ := hi.upd (o' := lrec fn tmps ps assign body r0 .ready none) hr
  exact ⟨_, _, run_endRound hg none, true, h, rfl, k h s, b, f⟩

theorem At.rndX {n : Nat} {h0 : Frag} {w0 : World} {postT postF : List Assn} {ρ : Env} {hs hs' : List Assn} {st : LoopState} {pd : Option Code} (e : Exit) (c : Code) (hc : (e = .ret ∧ c = .ret) ∨ ∃ i, e = .exit i ∧ c = .exit i)
    (hb : Blk l (lrec fn tmps ps assign body r0 st pd) hs) (hr : Rep (pts l (lrec fn tmps ps assign body r0 st pd)) (pts l (lrec fn tmps ps assign body r0 .done (some c))) hs hs')
    (k : ∀ h, Stars hs' h → Stars postF h) : At ⟨n, some l, [], h0, w0⟩ (RndQ P l h0 w0 postT postF) e ρ hs := by
  intro w hi
  have hg := hb.inv hi
  obtain ⟨h, s, b, f⟩ := hi.upd (o' := lrec fn tmps ps assign body r0 .done (some c)) hr
  rcases hc with ⟨rfl, rfl⟩ | ⟨i, rfl, rfl⟩
  · exact ⟨_, _, run_endRound hg (some .ret), false, h, rfl, k h s, b, f⟩
  · exact ⟨_, _, run_endRound hg (some (.exit i)), false, h, rfl, k h s, b, f⟩
theorem At.rndR {n : Nat} {h0 : Frag} {w0 : World} {postT postF : List Assn} {ρ : Env} {hs hs' : List Assn} {st : LoopState} {pd : Option Code}
    (hb : Blk l (lrec fn tmps ps assign body r0 st pd) hs) (hr : Rep (pts l (lrec fn tmps ps assign body r0 st pd)) (pts l (lrec fn tmps ps assign body r0 .done (some .ret))) hs hs')
    (k : ∀ h, Stars hs' h → Stars postF h) : At ⟨n, some l, [], h0, w0⟩ (RndQ P l h0 w0 postT postF) .ret ρ hs := At.rndX .ret .ret (.inl ⟨rfl, rfl⟩) hb hr k
theorem At.rndE {i n : Nat} {h0 : Frag} {w0 : World} {postT postF : List Assn} {ρ : Env} {hs hs' : List Assn} {st : LoopState} {pd : Option Code}
    (hb : Blk l (lrec fn tmps ps assign body r0 st pd) hs) (hr : Rep (pts l (lrec fn tmps ps assign body r0 st pd)) (pts l (lrec fn tmps ps assign body r0 .done (some (.exit i)))) hs hs')
    (k : ∀ h, Stars hs' h → Stars postF h) : At ⟨n, some l, [], h0, w0⟩ (RndQ P l h0 w0 postT postF) (.exit i) ρ hs := At.rndX (.exit i) (.exit i) (.inr ⟨i, rfl, rfl⟩) hb hr k

end

/-- The mark that a range over a function leaves among the deferred calls. -/
def markOf (r0 : Nat) : Deferred := { target := .collected r0, args := #[] }

/-- THE RULE. I k: between two rounds, k of them being over; Ix k c: round k has left by the jump c. -/
theorem J.rangeFunc {P : Program} {n : Nat} {ds : List Deferred} {h0 : Frag} {w0 : World} {Q : Exit → Act → World → Prop} {ρ : Env} {hs rest : List Assn} {f : Operand} {ps : List Tmp} {assign body : Code} {gf : FuncId} {cap : List Value}
    {own own' : List Assn} {xs : List (List Value)} (I : Nat → List Assn) (Ix : Nat → Code → List Assn)
    (hf : Ev n ρ f (.func (.func gf) #[] cap.toArray)) (it : Iter P gf cap own xs own') (he : Ent P gf) (sel : Sel own hs rest) (hps : ∀ x ∈ xs, x.length = ps.length) (h0I : ∀ h, Stars rest h → Stars (I 0) h)
    (round : ∀ l r0 fn k x h0 w0, xs[k]? = some x → J P ⟨n, some l, [], h0, w0⟩ assign
      (AsgQ P l body (RndQ P l h0 w0 (pts l (lrec fn (act n ds ρ).tmps ps assign body r0 .ready none) :: I (k + 1)) [exL fun c => pts l (lrec fn (act n ds ρ).tmps ps assign body r0 .done (some c)) :: Ix k c]))
      (setp (ps.zip x) ρ) (pts l (lrec fn (act n ds ρ).tmps ps assign body r0 .ready none) :: I k))
    (done : ∀ r0, At ⟨n, none, markOf r0 :: ds, h0, w0⟩ Q .normal ρ (pts r0 (.deferred (some [])) :: (own' ++ I xs.length)))
    (stop : ∀ r0 k c, k < xs.length → J P ⟨n, none, markOf r0 :: ds, h0, w0⟩ c Q ρ (pts r0 (.deferred (some [])) :: (own' ++ Ix k c))) :
    J P ⟨n, none, ds, h0, w0⟩ (.rangeFunc f ps.toArray assign body) Q ρ hs := by
  intro w hi
  refine wpIn_rangeFunc fun fn _ => ?_
  have hi1 := hi.alloc (.deferred (some []))
  have hs1 : (w.alloc (.deferred (some []))).heap.size = w.heap.size + 1 := by simp
  have hi2 := hi1.alloc (lrec fn (act n ds ρ).tmps ps assign body w.heap.size .ready none)
  rw [hs1] at hi2
  generalize hw2 : (w.alloc (.deferred (some []))).alloc (lrec fn (act n ds ρ).tmps ps assign body w.heap.size .ready none) = w2 at hi2
  have henter : (Instr.enterLoop fn (act n ds ρ).tmps ps.toArray assign body none).run P w = .ok (w.heap.size + 1, [markOf w.heap.size]) w2 := by
    rw [← hw2]
    have e : ∀ (o : Obj) (w : World), (newObj o).run P w = .ok w.heap.size (w.alloc o) := fun _ _ => rfl
    simp only [Instr.enterLoop, Sem.run_bind, Sem.run_pure, e, Result.andThen, hs1]
    rfl
  have hev := hf ds
  refine ⟨w.heap.size + 1, [markOf w.heap.size], w2, { target := .fn (.func gf) cap.toArray, args := #[.func (.yield (w.heap.size + 1)) #[] #[]] }, w2, gf, (.func (.yield (w.heap.size + 1)) #[] #[] :: cap).toArray, w2, henter, ?_, fun _ _ => trivial, ?_, fun hd => by simp [wideR] at hd, ?_⟩
  · show (resolve (act n ds ρ).eval (rangeCall f (w.heap.size + 1)) 0).run P w2 = _
    simp only [resolve, rangeCall, hev, Deferred.ofValue]
    simp [Act.eval]
  · show (callFunc gf (#[.func (.yield (w.heap.size + 1)) #[] #[]] ++ cap.toArray)).run P w2 = _
    rw [run_callFunc he]
    simp
  · rw [callsIn_wideR]
    have hy := it (w.heap.size + 1) (fun k => pts (w.heap.size + 1) (lrec fn (act n ds ρ).tmps ps assign body w.heap.size .ready none) :: I k)
      (fun k => [exL fun c => pts (w.heap.size + 1) (lrec fn (act n ds ρ).tmps ps assign body w.heap.size .done (some c)) :: Ix k c]) (by
        intro k x hx w3 h3 s3 b3
        have hg : w3.heap[w.heap.size + 1]? = some (lrec fn (act n ds ρ).tmps ps assign body w.heap.size .ready none) := Blk.get .own s3 b3
        have hlen : x.length = ps.length := hps x (List.mem_of_getElem? hx)
        refine ⟨fn, (act n ds (setp (ps.zip x) ρ)).tmps, assign, body, ?_, ?_⟩
        · unfold Instr.yield
          simp only [Sem.run_bind, run_getLoop hg, Result.andThen]
          have h1 : x.toArray.size = ps.toArray.size := by simpa using hlen
          rw [if_neg (by simpa using h1)]
          rw [← setp_tmps]
          have hz : ps.toArray.zip x.toArray = (ps.zip x).toArray := by simp
          rw [hz]
          simp [Sem.run_pure]
        · have hj := round (w.heap.size + 1) w.heap.size fn k x h3 w3 hx w3 (Inv.start _ s3 b3)
          exact roundIn_of_wpIn trivial hj)
    have hsel : Inv h0 w0 ((own ++ (pts (w.heap.size + 1) (lrec fn (act n ds ρ).tmps ps assign body w.heap.size .ready none) :: I 0)) ++ [pts w.heap.size (.deferred (some []))]) w2 := by
      refine Inv.mono hi2 fun h st => ?_
      have p1 : (pts (w.heap.size + 1) (lrec fn (act n ds ρ).tmps ps assign body w.heap.size .ready none) :: pts w.heap.size (.deferred (some [])) :: hs).Perm
          ((pts (w.heap.size + 1) (lrec fn (act n ds ρ).tmps ps assign body w.heap.size .ready none) :: pts w.heap.size (.deferred (some [])) :: own) ++ rest) :=
        List.Perm.cons _ (List.Perm.cons _ sel.perm)
      have st2 := Stars.app_right h0I (Stars.perm p1 st)
      refine Stars.perm ?_ st2
      rw [List.cons_append, List.cons_append, List.append_assoc, List.cons_append]
      refine List.Perm.trans ?_ List.perm_middle.symm
      refine List.Perm.cons _ ?_
      rw [← List.append_assoc]
      exact (List.perm_append_singleton _ _).symm
    obtain ⟨h1, s1, b1, fr⟩ := Inv.split hsel
    refine (hy.calls w2 h1 s1 b1).mono ?_
    rintro e w3 ⟨z, h', hz, rfl, s', b', f'⟩
    cases z with
    | none =>
      have hi3 := fr h' w3 _ s' b' f'
      have hbl : Blk (w.heap.size + 1) (lrec fn (act n ds ρ).tmps ps assign body w.heap.size .ready none) (pts (w.heap.size + 1) (lrec fn (act n ds ρ).tmps ps assign body w.heap.size .ready none) :: (own' ++ I xs.length ++ [pts w.heap.size (.deferred (some []))])) := .own
      have hi4 : Inv h0 w0 (pts (w.heap.size + 1) (lrec fn (act n ds ρ).tmps ps assign body w.heap.size .ready none) :: (own' ++ I xs.length ++ [pts w.heap.size (.deferred (some []))])) w3 := by
        refine Inv.perm ?_ hi3
        show ((own' ++ (pts (w.heap.size + 1) (lrec fn (act n ds ρ).tmps ps assign body w.heap.size .ready none) :: I xs.length)) ++ [pts w.heap.size (.deferred (some []))]).Perm _
        rw [List.append_assoc, List.cons_append, List.append_assoc]
        exact List.perm_middle
      have hg := hbl.inv hi4
      refine ⟨none, setBlk w3 (w.heap.size + 1) (lrec fn (act n ds ρ).tmps ps assign body w.heap.size .exhausted none), ?_, ?_⟩
      · unfold Instr.endLoop
        simp only [Sem.run_bind, run_getLoop hg, Result.andThen]
        rw [if_neg (by decide)]
        simp only [Sem.run_bind, run_setLoop hg, Result.andThen, Sem.run_pure]
        rfl
      · refine done w.heap.size _ ?_
        have hi5 := hi4.upd (o' := lrec fn (act n ds ρ).tmps ps assign body w.heap.size .exhausted none) .here
        exact (hi5.mono fun h st => st.tail).perm (List.perm_append_singleton _ _)
    | some k =>
      have hi3 := fr h' w3 _ s' b' f'
      have hi3' : Inv h0 w0 (exL (fun c => pts (w.heap.size + 1) (lrec fn (act n ds ρ).tmps ps assign body w.heap.size .done (some c)) :: Ix k c) :: (own' ++ [pts w.heap.size (.deferred (some []))])) w3 := by
        refine Inv.perm ?_ hi3
        show ((own' ++ [exL fun c => pts (w.heap.size + 1) (lrec fn (act n ds ρ).tmps ps assign body w.heap.size .done (some c)) :: Ix k c]) ++ [pts w.heap.size (.deferred (some []))]).Perm _
        rw [List.append_assoc]
        exact List.perm_middle
      obtain ⟨c, hi4⟩ := Inv.openE hi3'
      rw [List.cons_append] at hi4
      have hg := Blk.inv .own hi4
      refine ⟨some c, setBlk w3 (w.heap.size + 1) (lrec fn (act n ds ρ).tmps ps assign body w.heap.size .exhausted (some c)), ?_, ?_⟩
      · unfold Instr.endLoop
        simp only [Sem.run_bind, run_getLoop hg, Result.andThen]
        rw [if_neg (by decide)]
        simp only [Sem.run_bind, run_setLoop hg, Result.andThen, Sem.run_pure]
        rfl
      · refine stop w.heap.size k c (hz k rfl) _ ?_
        have hi5 := hi4.upd (o' := lrec fn (act n ds ρ).tmps ps assign body w.heap.size .exhausted (some c)) .here
        refine (hi5.mono fun h st => st.tail).perm ?_
        rw [← List.append_assoc]
        refine List.Perm.trans (List.perm_append_singleton _ _) (List.Perm.cons _ List.perm_append_comm)

/-- A return behind a range over a function: the mark is taken up. -/
theorem At.retM {P : Program} {fn : Func} {X : Type} {R : X → Prop} {rt : X → Value} {post : X → List Assn} {ρ : Env} {hs hs1 : List Assn} {n r0 : Nat} {h0 w0 v} (x : X) (hR : R x)
    (tk : Take (pts r0 (.deferred (some []))) hs hs1) (hres : ResV P ⟨n, none, [markOf r0], h0, w0⟩ fn ρ hs1 v) (hv : v = rt x) (hpost : ∀ h, Stars hs1 h → Stars (post x) h) :
    At ⟨n, none, [markOf r0], h0, w0⟩ (RetQ P fn h0 w0 R rt post) .ret ρ hs := by
  intro w hi
  have hi1 : Inv h0 w0 (pts r0 (.deferred (some [])) :: hs1) w := Inv.perm tk.perm hi
  have hg := Blk.inv .own hi1
  have hi2 := hi1.upd (o' := .deferred none) .here
  have hi3 := hi2.mono fun h st => st.tail
  obtain ⟨h, s, b, f⟩ := id hi3
  refine ⟨by simp, .inl ⟨r0, setBlk w r0 (.deferred none), rfl, ?_, ?_⟩⟩
  · simp [Instr.takeDeferred, Sem.run_bind, getObj, setObj, Sem.run, hg, Result.andThen, setBlk]
  · exact ⟨v, hres _ hi3, x, h, hR, by rw [hv], hpost h s, b, f⟩
theorem At.retMN {P : Program} {fn : Func} {X : Type} {R : X → Prop} {rt : X → Value} {post : X → List Assn} {ρ : Env} {hs hs1 : List Assn} {n r0 : Nat} {h0 w0 v} (x : X) (hR : R x)
    (tk : Take (pts r0 (.deferred (some []))) hs hs1) (hres : ResV P ⟨n, none, [markOf r0], h0, w0⟩ fn ρ hs1 v) (hv : v = rt x) (hpost : ∀ h, Stars hs1 h → Stars (post x) h) :
    At ⟨n, none, [markOf r0], h0, w0⟩ (RetQ P fn h0 w0 R rt post) .normal ρ hs := At.retM (fn := fn) x hR tk hres hv hpost

end Go.Proofs.Ytfnoaohbjlnkgaa
