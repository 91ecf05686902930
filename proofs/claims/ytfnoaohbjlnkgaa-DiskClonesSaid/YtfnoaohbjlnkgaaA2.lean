/-
  Functions' contracts, and the rules of the simple operations. No program in it.
-/
import Derived.Test.YtfnoaohbjlnkgaaA1
namespace Go.Proofs.Ytfnoaohbjlnkgaa

/-! ### finding an assertion in a state -/
inductive Take (A : Assn) : List Assn → List Assn → Prop
  | here {l} : Take A (A :: l) l
  | there {B l l'} : Take A l l' → Take A (B :: l) (B :: l')

theorem Take.perm {A l l'} (t : Take A l l') : l.Perm (A :: l') := by
  induction t with
  | here => exact List.Perm.refl _
  | there _ ih => exact (List.Perm.cons _ ih).trans (List.Perm.swap _ _ _)

inductive Sel : List Assn → List Assn → List Assn → Prop
  | nil {l} : Sel [] l l
  | cons {A pre l l' rest} : Take A l l' → Sel pre l' rest → Sel (A :: pre) l rest

theorem Sel.perm {pre l rest} (s : Sel pre l rest) : l.Perm (pre ++ rest) := by
  induction s with
  | nil => exact List.Perm.refl _
  | cons t _ ih => exact t.perm.trans (List.Perm.cons _ ih)

/-- Replace one assertion by another in its place. -/
inductive Rep (A B : Assn) : List Assn → List Assn → Prop
  | here {l} : Rep A B (A :: l) (B :: l)
  | there {D l l'} : Rep A B l l' → Rep A B (D :: l) (D :: l')

theorem Rep.perm {A B l l'} (r : Rep A B l l') : ∃ m, l.Perm (A :: m) ∧ (B :: m).Perm l' := by
  induction r with
  | here => exact ⟨_, List.Perm.refl _, List.Perm.refl _⟩
  | there _ ih =>
    obtain ⟨m, a, b⟩ := ih
    exact ⟨_, (List.Perm.cons _ a).trans (List.Perm.swap _ _ _), (List.Perm.swap _ _ _).trans (List.Perm.cons _ b)⟩

/-- The block b holds o, owned or not. -/
inductive Blk (b : Nat) (o : Obj) : List Assn → Prop
  | own {l} : Blk b o (pts b o :: l)
  | rd {l} : Blk b o (ro b o :: l)
  | there {A l} : Blk b o l → Blk b o (A :: l)

theorem Blk.get {b o} : ∀ {hs : List Assn} {h : Frag} {w : World}, Blk b o hs → Stars hs h → Sub h w → w.heap[b]? = some o := by
  intro hs h w k
  induction k generalizing h with
  | own =>
    rintro ⟨h1, h2, a, _, _, rfl⟩ s
    unfold pts at a
    exact s.left b true o a
  | rd =>
    rintro ⟨h1, h2, a, _, _, rfl⟩ s
    unfold ro at a
    exact s.left b false o a
  | there _ ih =>
    rintro ⟨h1, h2, _, t, c, rfl⟩ s
    exact ih t (s.right c)

theorem Blk.inv {b o} {hs : List Assn} {h0 w0 w} (k : Blk b o hs) (i : Inv h0 w0 hs w) : w.heap[b]? = some o :=
  let ⟨_, s, c, _⟩ := i; k.get s c

/-! ### cells by place -/
inductive Nth : Nat → List Value → Value → Prop
  | zero {v l} : Nth 0 (v :: l) v
  | succ {n a l v} : Nth n l v → Nth (n + 1) (a :: l) v
theorem Nth.get {n l v} (h : Nth n l v) : l[n]? = some v := by induction h with
  | zero => rfl
  | succ _ ih => simpa using ih
theorem Nth.of {l : List Value} : ∀ {n : Nat} {v : Value}, l[n]? = some v → Nth n l v := by
  induction l with
  | nil => intro n v h; simp at h
  | cons a l ih =>
    intro n v h
    cases n with
    | zero => simp at h; subst h; exact .zero
    | succ n => exact .succ (ih (by simpa using h))

inductive SetN : Nat → Value → List Value → List Value → Prop
  | zero {v a l} : SetN 0 v (a :: l) (v :: l)
  | succ {n v a l l'} : SetN n v l l' → SetN (n + 1) v (a :: l) (a :: l')
theorem SetN.eq {n v l l'} (h : SetN n v l l') : l' = l.set n v ∧ n < l.length := by induction h with
  | zero => simp
  | succ _ ih => exact ⟨by simp [ih.1], by simp; omega⟩
theorem SetN.of {v : Value} {l : List Value} : ∀ {n : Nat}, n < l.length → SetN n v l (l.set n v) := by
  induction l with
  | nil => intro n h; simp at h
  | cons a l ih =>
    intro n h
    cases n with
    | zero => exact .zero
    | succ n => exact .succ (ih (by simpa using h))

/-! ### worlds change -/
def one (b : Nat) (o : Obj) : Frag := fun x => if x = b then some (true, o) else none
theorem one_same (b o) : one b o b = some (true, o) := if_pos rfl
theorem one_ne {b x : Nat} (o : Obj) (h : x ≠ b) : one b o x = none := if_neg h
theorem one_pts (b o) : pts b o (one b o) := by unfold pts; exact one_same b o
theorem one_inv {b x : Nat} {o o' : Obj} {f : Bool} (h : one b o x = some (f, o')) : x = b ∧ f = true ∧ o' = o := by
  by_cases e : x = b
  · subst e; rw [one_same] at h; cases h; exact ⟨rfl, rfl, rfl⟩
  · rw [one_ne o e] at h; cases h
theorem one_dom {b x : Nat} {o : Obj} (h : one b o x ≠ none) : x = b := by
  by_cases e : x = b
  · exact e
  · exact absurd (one_ne o e) h

theorem Inv.alloc {h0 w0 hs w} (i : Inv h0 w0 hs w) (o : Obj) : Inv h0 w0 (pts w.heap.size o :: hs) (w.alloc o) := by
  obtain ⟨h1, s1, b1, f⟩ := Inv.split (pre := []) (rest := hs) i
  have hn : ∀ b, h1 b ≠ none → b < w.heap.size := fun b hb => b1.lt hb
  refine f (one w.heap.size o) (w.alloc o) [pts w.heap.size o] (Stars.single (one_pts _ _)) ?_ ?_
  · intro b fl o' e
    obtain ⟨rfl, rfl, rfl⟩ := one_inv e
    exact heap_alloc_new w _
  · refine ⟨rfl, rfl, rfl, by simp, fun b hb _ => heap_alloc_old w o b hb, fun b ⟨o', e⟩ => ?_, fun b hb => ?_⟩
    · obtain ⟨rfl, _, _⟩ := one_inv e
      exact .inr (Nat.le_refl _)
    · exact .inr (Nat.le_of_eq (one_dom hb).symm)

def setBlk (w : World) (b : Nat) (o : Obj) : World := { w with heap := w.heap.setIfInBounds b o }

theorem Inv.upd {h0 w0 hs w b o o' hs'} (i : Inv h0 w0 hs w) (r : Rep (pts b o) (pts b o') hs hs') : Inv h0 w0 hs' (setBlk w b o') := by
  obtain ⟨m, p1, p2⟩ := r.perm
  obtain ⟨h1, s1, b1, f⟩ := Inv.split (pre := [pts b o]) (rest := m) (i.perm p1)
  have ho : Own h1 b := by
    obtain ⟨h2, h3, a, _, _, rfl⟩ := s1
    unfold pts at a
    exact ⟨o, by unfold jn; rw [a]; rfl⟩
  have hlt : b < w.heap.size := by
    have := Blk.get (b := b) (o := o) .own s1 b1
    exact (Array.getElem?_eq_some_iff.1 this).1
  refine Inv.perm p2 (f (one b o') (setBlk w b o') [pts b o'] (Stars.single (one_pts _ _)) ?_ ?_)
  · intro x fl o'' e
    obtain ⟨rfl, rfl, rfl⟩ := one_inv e
    simp [setBlk, hlt]
  · refine ⟨rfl, rfl, rfl, by simp [setBlk], fun x hx hn => ?_, fun x ⟨o'', e⟩ => ?_, fun x hx => ?_⟩
    · have hne : b ≠ x := fun e => hn (e ▸ ho)
      simp [setBlk, Array.getElem?_setIfInBounds_ne hne]
    · obtain ⟨rfl, _, _⟩ := one_inv e
      exact .inl ho
    · have := one_dom hx
      subst this
      obtain ⟨o'', e⟩ := ho
      exact .inl (by rw [e]; simp)

theorem Inv.drew {h0 w0 hs w} (i : Inv h0 w0 hs w) : Inv h0 w0 hs w.drew := by
  obtain ⟨h, s, b, f⟩ := i
  exact ⟨h, s, b, ⟨f.os, f.tape, f.output, f.size, f.keep, f.own, f.dom⟩⟩

/-! ### functions -/
def Ent (P : Program) (f : FuncId) : Prop := ∃ fn, P.funcs[f]? = some fn ∧ (fn.name == "runtime.NumGoroutine") = false ∧ fn.body.isNone = false

structure Fn (P : Program) (f : FuncId) (args : List Value) (pre : List Assn) {X : Type} (R : X → Prop) (rt : X → Value) (post : X → List Assn) : Prop where
  ent : Ent P f
  calls : ∀ w h, Stars pre h → Sub h w → Calls P f args.toArray w fun e w' => ∃ x h', R x ∧ e = .returned (rt x) ∧ Stars (post x) h' ∧ Sub h' w' ∧ Fr h w h' w'

def RetQ (P : Program) (fn : Func) (h0 : Frag) (w0 : World) {X : Type} (R : X → Prop) (rt : X → Value) (post : X → List Assn) : Exit → Act → World → Prop :=
  bodyPostM Fence.wide 0 P fn fun e w' => ∃ x h', R x ∧ e = .returned (rt x) ∧ Stars (post x) h' ∧ Sub h' w' ∧ Fr h0 w0 h' w'

def slots : Nat → List Value → List (Nat × Value)
  | _, [] => []
  | k, v :: l => (k, v) :: slots (k + 1) l

theorem slots_get : ∀ (l : List Value) (k i : Nat), ext (slots k l) (fun _ => undef) (k + i) = l.getD i undef := by
  intro l
  induction l with
  | nil => intro k i; simp [slots, ext]
  | cons v l ih =>
    intro k i
    rw [slots, ext_cons]
    show (if k + i = k then v else _) = _
    cases i with
    | zero => simp
    | succ i =>
      rw [if_neg (by omega)]
      have := ih (k + 1) i
      rw [show k + (i + 1) = k + 1 + i by omega, this]
      simp

theorem Fn.mk' {P : Program} {f : FuncId} {fn : Func} {c : Code} {args : List Value} {pre : List Assn} {X : Type} {R : X → Prop} {rt : X → Value} {post : X → List Assn} {n : Nat} {l : List (Nat × Value)}
    (hf : P.funcs[f]? = some fn) (hname : (fn.name == "runtime.NumGoroutine") = false) (hb : fn.body = some c) (hn : fn.ntmps = n) (hlen : args.length ≤ n) (hl : slots 0 args = l)
    (h : ∀ h0 w0, J P ⟨n, none, [], h0, w0⟩ c (RetQ P fn h0 w0 R rt post) (ext l fun _ => undef) pre) : Fn P f args pre R rt post := by
  refine ⟨⟨fn, hf, hname, by rw [hb]; rfl⟩, fun w h0 s b => (callsIn_wide (n := 0)).1 (callsIn_of_wp_marks hf hb trivial ?_)⟩
  have he : ({ tmps := args.toArray ++ Array.replicate (fn.ntmps - args.toArray.size) undef, defers := [] } : Act) = act n [] (ext l fun _ => undef) := by
    subst hl hn
    unfold act
    simp only [Act.mk.injEq, and_true]
    apply Array.ext
    · simp; omega
    · intro i h1 h2
      have hg := slots_get args 0 i
      rw [Nat.zero_add] at hg
      rw [Array.getElem_ofFn, hg, Array.getElem_append]
      split
      · rename_i hlt
        simp at hlt
        simp [hlt]
      · rename_i hlt
        simp at hlt
        simp [Nat.not_lt.2 hlt]
  rw [he]
  exact h h0 w w (Inv.start pre s b)

/-- A function's result variables. -/
def ResV (P : Program) (C : Cx) (fn : Func) (ρ : Env) (hs : List Assn) (v : Value) : Prop := ∀ w, C.inv hs w → (results fn (C.act ρ).tmps).run P w = .ok v w

theorem getD_act {n ds ρ t v} (h : Ev n ρ (.tmp t) v) : (act n ds ρ).tmps.getD t undef = v := h ds

theorem ResV.nores {P C fn ρ hs} (h : fn.results = #[]) : ResV P C fn ρ hs (.tuple #[]) := fun w _ => by simp [results, h]
theorem ResV.one {P C fn ρ hs t v} (h : fn.results = #[.tmp t]) (hv : Ev C.n ρ (.tmp t) v) : ResV P C fn ρ hs v := fun w _ => by
  have := getD_act (ds := C.ds) hv
  simp only [Array.getD_eq_getD_getElem?] at this
  simp [results, h, this]
theorem ResV.two {P C fn ρ hs t u v x} (h : fn.results = #[.tmp t, .tmp u]) (hv : Ev C.n ρ (.tmp t) v) (hx : Ev C.n ρ (.tmp u) x) : ResV P C fn ρ hs (.tuple #[v, x]) := fun w _ => by
  have h1 := getD_act (ds := C.ds) hv
  have h2 := getD_act (ds := C.ds) hx
  simp only [Array.getD_eq_getD_getElem?] at h1 h2
  simp [results, h, h1, h2]
theorem ResV.three {P C fn ρ hs t u s v x y} (h : fn.results = #[.tmp t, .tmp u, .tmp s]) (hv : Ev C.n ρ (.tmp t) v) (hx : Ev C.n ρ (.tmp u) x) (hy : Ev C.n ρ (.tmp s) y) : ResV P C fn ρ hs (.tuple #[v, x, y]) := fun w _ => by
  have h1 := getD_act (ds := C.ds) hv
  have h2 := getD_act (ds := C.ds) hx
  have h3 := getD_act (ds := C.ds) hy
  simp only [Array.getD_eq_getD_getElem?] at h1 h2 h3
  simp [results, h, h1, h2, h3]

section
variable {P : Program} {fn : Func} {X : Type} {R : X → Prop} {rt : X → Value} {post : X → List Assn} {C : Cx} {ρ : Env} {hs : List Assn}

theorem At.ret {n h0 w0 v} (x : X) (hR : R x) (hres : ResV P ⟨n, none, [], h0, w0⟩ fn ρ hs v) (hv : v = rt x) (hpost : ∀ h, Stars hs h → Stars (post x) h) :
    At ⟨n, none, [], h0, w0⟩ (RetQ P fn h0 w0 R rt post) .ret ρ hs := by
  intro w hi
  obtain ⟨h, s, b, f⟩ := id hi
  exact ⟨v, hres w hi, x, h, hR, by rw [hv], hpost h s, b, f⟩
theorem At.retN {n h0 w0 v} (x : X) (hR : R x) (hres : ResV P ⟨n, none, [], h0, w0⟩ fn ρ hs v) (hv : v = rt x) (hpost : ∀ h, Stars hs h → Stars (post x) h) :
    At ⟨n, none, [], h0, w0⟩ (RetQ P fn h0 w0 R rt post) .normal ρ hs := At.ret (fn := fn) x hR hres hv hpost

end

theorem run_callFunc {P : Program} {f : FuncId} (h : Ent P f) (args : Array Value) (w : World) : (callFunc f args).run P w = .ok (.enter f args) w := by
  obtain ⟨fn, a, b, c⟩ := h
  simp only [callFunc, Sem.run_bind, program, Sem.run, Result.andThen, a, b, c]
  rfl

section
variable {P : Program} {C : Cx} {hs : List Assn} {ρ : Env} {d : Option Tmp} {ty : TypeId} {pos : String} {af : Array Edge} {g : Option (Nat × Bool)} {K : Value → List Assn → Prop}

/-- A call by a contract; `Sel` finds what the callee needs. -/
theorem Ef.of_calls {f : FuncId} {args : List Value} {o : Oper} (hrun : ∀ w, (o.semAt C.r (C.act ρ).eval).run P w = .ok (.enter f args.toArray) w)
    {pre rest : List Assn} {X : Type} {R : X → Prop} {rt : X → Value} {post : X → List Assn} (hc : Fn P f args pre R rt post) (sel : Sel pre hs rest)
    (k : ∀ x, R x → K (rt x) (post x ++ rest)) : Ef P C hs ρ o K := fun w hi => by
  obtain ⟨h1, s1, b1, fr⟩ := Inv.split (hi.perm sel.perm)
  refine .inr (.inl ⟨f, args.toArray, w, hrun w, (hc.calls w h1 s1 b1).mono ?_⟩)
  rintro e w' ⟨x, h', hR, rfl, s', b', f'⟩
  exact ⟨rt x, post x ++ rest, rfl, fr h' w' (post x) s' b' f', k x hR⟩

theorem run_callv {f : FuncId} {first cap : Array Value} {args : List Value} {x : Operand} {xs : List Operand} {ats : Array TypeId} (he : Ent P f) (hx : Ev C.n ρ x (.func (.func f) first cap)) (ha : EvL C.n ρ xs args) (w : World) :
    (({ dst := d, op := .call { callee := .value x, args := xs.toArray, argTypes := ats }, type := ty, pos := pos, after := af, guard := g } : Oper).semAt C.r (C.act ρ).eval).run P w = .ok (.enter f (first ++ args.toArray ++ cap)) w := by
  rw [Oper.semAt_eq _ _ _ (fun c h => by cases h)]
  have h1 := hx C.ds
  have h2 := ha.map C.ds
  simp only [execOp, resolve, h1, h2, Deferred.ofValue]
  simp only [Sem.run_bind, Sem.run_pure, Result.andThen, invoke, run_callFunc he]

theorem Ef.call {f : FuncId} {args : List Value} {xs : List Operand} {ats : Array TypeId} {pre rest : List Assn} {X : Type} {R : X → Prop} {rt : X → Value} {post : X → List Assn}
    (ha : EvL C.n ρ xs args) (hc : Fn P f args pre R rt post) (sel : Sel pre hs rest) (k : ∀ x, R x → K (rt x) (post x ++ rest)) :
    Ef P C hs ρ ⟨d, .call { callee := .value (.func f), args := xs.toArray, argTypes := ats }, ty, pos, af, g⟩ K :=
  Ef.of_calls (args := args) (fun w => by rw [run_callv hc.ent Ev.f ha w]; simp) hc sel k

/-- A call of a function value: a function and what it has captured. -/
theorem Ef.callv {x : Operand} {f : FuncId} {cap : List Value} {args : List Value} {xs : List Operand} {ats : Array TypeId} {pre rest : List Assn} {X : Type} {R : X → Prop} {rt : X → Value} {post : X → List Assn}
    (hx : Ev C.n ρ x (.func (.func f) #[] cap.toArray)) (ha : EvL C.n ρ xs args) (hc : Fn P f (args ++ cap) pre R rt post) (sel : Sel pre hs rest) (k : ∀ x, R x → K (rt x) (post x ++ rest)) :
    Ef P C hs ρ ⟨d, .call { callee := .value x, args := xs.toArray, argTypes := ats }, ty, pos, af, g⟩ K :=
  Ef.of_calls (args := args ++ cap) (fun w => by rw [run_callv hc.ent hx ha w]; simp) hc sel k
end

end Go.Proofs.Ytfnoaohbjlnkgaa
