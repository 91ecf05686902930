/-
  Parts of the proof: G22, G23, K6, G24, G25, K7, G26, G27, G28, E1, G29, G30, G31, E2.
-/
import Derived.Test.YtbhladkbnleeoaaGreatM2
namespace Go.Proofs.YtbhladkbnleeoaaGreat
set_option maxRecDepth 100000
attribute [local irreducible] J JL At Rd Ef DNew DCar DRun Then RetQ LoopQ

theorem Fn.invc {P : Program} {f : FuncId} {args : List Value} {pre : List Assn} {X : Type} {R R' : X → Prop} {rt : X → Value} {post post' : X → List Assn} (F : Fn P f args pre R rt post)
    (hp : ∀ x h0 w0 w, R x → Inv h0 w0 (post x) w → R' x ∧ Inv h0 w0 (post' x) w) : Fn P f args pre R' rt post' :=
  ⟨F.ent, fun w h s b => (F.calls w h s b).mono fun _ w' ⟨x, h', r, he, s', b', f'⟩ =>
    let ⟨r2, h2, s2, b2, f2⟩ := hp x h w w' r ⟨h', s', b', f'⟩
    ⟨x, h2, r2, he, s2, b2, f2⟩⟩
theorem Fn.demote {P : Program} {f : FuncId} {args : List Value} {pre : List Assn} {e : TypeId} {xs : List (List Value)} {rt : Option Addr × Nat → Value} (F : Fn P f args pre (X := Option Addr × Nat) (fun _ => True) rt (fun x => [row x.1 x.2 e 2 xs])) :
    Fn P f args pre (X := Option Addr × Nat) (fun x => xs.length ≤ x.2) rt (fun x => [rowR x.1 2 xs]) :=
  F.invc fun _ _ _ _ _ i => ⟨let ⟨_, s, _⟩ := i; row_capS s, Inv.demote .here i⟩
theorem icatn (bl : Nat) (X L : NdV) (n nL : Nat) (hn : X.cells.length = n) (hnL : L.cells.length = nL) (ht : X.cells.length + L.cells.length ≤ 1048576) :
    Fn Tryz.prog 84 [.slice (some ⟨bl, 0, none⟩) 2 2] [row (some ⟨bl, 0, none⟩) 2 89 1 [[Value.slice X.a n X.cap], [.slice L.a nL L.cap]], nodesM [X], nodesM [L]] (X := Option Addr × Nat) (fun _ => True) (fun x => .slice x.1 (X.cells ++ L.cells).length x.2) (fun x => [row x.1 x.2 91 2 (X.cells ++ L.cells), nodesM [X], nodesM [L]]) := by
  subst hn hnL
  have hcc : catC [X, L] = X.cells ++ L.cells := by simp [catC]
  refine (icat_any (some ⟨bl, 0, none⟩) 2 2 [X, L] rfl (by decide) (by rw [hcc, List.length_append]; exact ht) (row (some ⟨bl, 0, none⟩) 2 89 1 (svals [X, L])) (fun t => SIn.row t)).cv (fun _ st => ?_) (fun x _ => by rw [hcc]) fun x _ _ st => ?_
  · have s1 : Stars [nodesM [X], nodesM [L], row (some ⟨bl, 0, none⟩) 2 89 1 (svals [X, L])] _ := Stars.sel (.cons (.there .here) (.cons (.there .here) (.cons .here .nil))) st
    exact Stars.swap (nodesM_append s1)
  · rw [hcc] at st
    have s1 := nodesM_sub (ys := [X]) (fun y hy => by simp at hy; simp [hy]) (Stars.sel (pre := [nodesM [X, L], row x.1 x.2 91 2 (X.cells ++ L.cells)]) (.cons (.there (.there .here)) (.cons .here .nil)) st)
    have s2 := nodesM_sub (ys := [L]) (fun y hy => by simp at hy; simp [hy]) (Stars.swap s1)
    exact Stars.sel (.cons (.there (.there (.there .here))) (.cons (.there (.there .here)) (.cons .here .nil))) s2
theorem childF_map {h : Nat} (x : List (Kt h)) (key : Bs) : childF (x.map kdp) key = childF x key := by
  unfold childF
  rw [← List.map_tail, List.takeWhile_map, List.length_map]
  rfl
theorem childF_lt {α : Type} {l : List (Bs × α)} (h : l ≠ []) (key : Bs) : childF l key < l.length := by
  unfold childF
  have h1 := (List.takeWhile_sublist (l := l.tail) (p := fun q => !slt key q.1)).length_le
  have h2 := List.length_pos_iff.2 h
  rw [List.length_tail] at h1
  omega
theorem sizeL_le : ∀ {l : List It}, (∀ p ∈ l, itOk p) → sizeL l ≤ 475 * l.length := by
  intro l
  induction l with
  | nil => intro _; exact Nat.le_refl _
  | cons p l ih =>
    intro h
    have h1 := ih fun q hq => h q (List.mem_cons_of_mem _ hq)
    obtain ⟨h2, h3, h4⟩ := h p (List.mem_cons_self ..)
    rw [sizeL_cons, List.length_cons]; omega
theorem sizeI_le {l : List Kd} (h : ∀ p ∈ l, kdOk p) : sizeI l ≤ 117 * l.length := by
  cases l with
  | nil => exact Nat.zero_le _
  | cons p l =>
    have := sizeK_le fun q hq => h q (List.mem_cons_of_mem p hq)
    rw [sizeI_cons, List.length_cons]; omega
theorem child_at (a : Option Addr) (n cap : Nat) (l : List Kd) (key : Bs) (hn : l.length = n) (h0 : 0 < l.length) (hs : l.tail.Pairwise fun a b => slt a.1 b.1 = true) (hl : l.length ≤ 1048576) :
    Fn Tryz.prog 32 [.slice a n cap, str key] [rowR a 2 (l.map kdc)] (X := Unit) (fun _ => True) (fun _ => .int .i64 (childF l key : Int)) (fun _ => [rowR a 2 (l.map kdc)]) := by
  subst hn
  exact child_any a cap l key h0 hs hl
theorem kcs_get {h : Nat} {x : List (Kt h)} {i : Nat} {c : Kt h} (hc : x[i]? = some c) : (kcs x)[i]? = some [str c.1, .int .i64 (c.2.1 : Int)] := by simp [kcs, kdc, kdp, hc]
theorem kcs_set0 {h : Nat} {ks : List (Kt h)} {p : Kt h} (k : Bs) (hp : ks[0]? = some p) : (kcs ks).set 0 [str k, .int .i64 (p.2.1 : Int)] = kcs (setK0 k ks) := by
  cases ks with
  | nil => cases hp
  | cons q l => cases hp; rfl
theorem kcs_app {h : Nat} (x y : List (Kt h)) : kcs (x ++ y) = kcs x ++ kcs y := by simp [kcs]
theorem kcs_take {h : Nat} (x : List (Kt h)) (i : Nat) : kcs (x.take i) = (kcs x).take i := by simp [kcs, List.map_take]
theorem kcs_drop {h : Nat} (x : List (Kt h)) (i : Nat) : kcs (x.drop i) = (kcs x).drop i := by simp [kcs, List.map_drop]
theorem set_app0 {α : Type} {x y : List α} {v : α} : (x ++ y).set x.length v = x ++ y.set 0 v := by
  rw [List.set_append_right _ _ (Nat.le_refl _), Nat.sub_self]

set_option maxHeartbeats 400000 in
theorem lsmall0 (a : Option Addr) (cap n : Nat) :
    Fn Tryz.prog 134 [.slice a n cap] [] (X := Unit) (fun _ => True) (fun _ => .bool false) (fun _ => []) := by
 refine Fn.mk' (n := 3) (l := [(0, .slice a n cap)]) (fn := Tryz.f134) Tryz.func134 (by kernel_rfl) rfl rfl (by simp) rfl ?_
 intro h0 w0
 exact J.sr <| JL.as Ev.c <| JL.n4 <| JL.as Ev.c <| JL.nr <| At.r (()) (trivial) (ResV.one rfl (t0 rfl)) rfl

set_option maxHeartbeats 400000 in
theorem ismall0 (a : Option Addr) (cap n : Nat) :
    Fn Tryz.prog 137 [.slice a n cap] [] (X := Unit) (fun _ => True) (fun _ => .bool (decide ((n : Int) = 1))) (fun _ => []) := by
 refine Fn.mk' (n := 6) (l := [(0, .slice a n cap)]) (fn := Tryz.f137) Tryz.func137 (by kernel_rfl) rfl rfl (by simp) rfl ?_
 intro h0 w0
 exact J.sr <| JL.as Ev.c <| JL.n4 <| JL.mv (t1 rfl) <| JL.rd (Rd.len Tryz.runUnderlying89 (t0 rfl)) <| JL.rd (Rd.eql (t0 rfl) Ev.c) <| JL.as (t0 rfl) <| JL.nr <| At.r (()) (trivial) (ResV.one rfl (t0 rfl)) rfl

set_option maxHeartbeats 400000 in
theorem repl_leaf (c t d m f : Nat) (root : Int) (_ : f ≤ 1073741824) (key : Bs) (mk : List It) (hmk : ∀ e ∈ mk, itOk e) (hmk1 : mk.length ≤ 1) (gf : Nat) (caps : List Value) (Kc : Assn) (Qp : List It → Prop) (hE : ∀ (a : Option Addr) (cap : Nat) (l : List It), sorted l → l.length ≤ cap → l.length ≤ 10000 → Qp l → Fn Tryz.prog gf (.slice a l.length cap :: caps) [rowR a 2 (l.map itc), Kc] (X := Option Addr × Nat) (fun x => (edS mk key l).length ≤ x.2) (fun x => .slice x.1 (edS mk key l).length x.2) (fun x => [rowR x.1 2 ((edS mk key l).map itc), Kc])) (l : Tr 0) (b : Nat) (st : BSt) (hH : Hd f st.D st.s 0 l b) (_ : StOk st) (hg : st.gn.length < 1048576) (hQ : Qp l) :
    Fn Tryz.prog 64 [.pointer (some ⟨c, 0, none⟩), .int .i64 (b : Int), str key, .func (.func gf) #[] caps.toArray] [chA c t st.tk st.gn, pts t (.cells [.pointer (some ⟨d, 0, none⟩), .pointer (some ⟨m, 0, none⟩), .int .i64 root].toArray 68), dk d st.D, bm m f st.s, Kc] (X := Option Addr × Nat × List NdV) (fun z => z.2.2.map (·.n) = (replT f key mk 0 l b st).2.2.map (nd 0)) (fun z => .tuple #[.slice z.1 z.2.2.length z.2.1, .int .i64 (replT f key mk 0 l b st).2.1]) (fun z => [row z.1 z.2.1 76 1 (nvals z.2.2), nodesM z.2.2, chA c t (replT f key mk 0 l b st).1.tk (replT f key mk 0 l b st).1.gn, pts t (.cells [.pointer (some ⟨d, 0, none⟩), .pointer (some ⟨m, 0, none⟩), .int .i64 root].toArray 68), dk d (replT f key mk 0 l b st).1.D, bm m f (replT f key mk 0 l b st).1.s, Kc]) := by
 refine Fn.mk' (n := 177) (l := [(0, .pointer (some ⟨c, 0, none⟩)), (1, .int .i64 (b : Int)), (2, str key), (3, .func (.func gf) #[] caps.toArray)]) (fn := Tryz.f64) Tryz.func64 (by kernel_rfl) rfl rfl (by simp) rfl ?_
 intro h0 w0
 obtain ⟨hb, _, hn, hv⟩ := hH
 have hlen : List.length (α := It) l ≤ 126 := hn.g.len
 obtain ⟨ed1, ed2⟩ := edS_ok (key := key) hmk hmk1 hn.2.1
 have hsz := sizeL_le ed1
 refine J.sr <| JL.as Ev.c <| JL.as Ev.c <| JL.n4 <| JL.mv (t2 rfl) <| JL.mv (t4 rfl) <| JL.ef (Ef.call (.cons (t1 rfl) (.cons (t0 rfl) .nil)) (copen_any c t d m root st.tk st.gn st.D b (.leaf l) hg hb hn hv) (by repeat constructor) ?_)
 rintro ⟨xa, xc, xn⟩ hx
 simp only [cA, nA]
 refine JL.mv (t0 rfl) <| JL.e (t0 rfl) <| JL.e (t1 rfl) <| JL.as (t1 rfl) <| JL.as (t1 rfl) <| JL.n5 <| JL.mv (t0 rfl) <| JL.rd (Rd.neq (t0 rfl) Ev.c) <| JL.n2 <| J.condD (t0 rfl) ?_ ?_
 intro hc1
 have hdn : st.D.down = true := by
   by_cases hd : st.D.down = true
   · exact hd
   · exfalso; exact hc1 (by unfold rdC; rw [if_neg hd])
 have hr : (replT f key mk 0 l b st) = (goneT st b, 29, []) := if_pos hdn
 have hrc : rdC st.D = 29 := if_pos hdn
 exact J.sr <| JL.mv (t2 rfl) <| JL.as Ev.c <| JL.as (t1 rfl) <| JL.nr <| At.nextR <| At.ret ((none, 0, [])) (by rw [hr]; rfl) (ResV.two rfl (t1 rfl) (t0 rfl)) (by rw [hr, hrc]; rfl) (fun _ s => by rw [hr]; exact row_nil 76 1 (nodesM_nil (Stars.sel (by repeat constructor) s)))
 intro hc1
 have hdn : st.D.down = false := by
   by_cases hd : st.D.down = true
   · exfalso; exact hc1 (by unfold rdC; rw [if_pos hd]; decide)
   · simpa using hd
 have hr : (replT f key mk 0 l b st) = (goneT st b, 0, packL (edS mk key l)) := if_neg (by rw [hdn]; decide)
 obtain rfl : xn = .leaf l := hx hdn
 rw [if_neg (by rw [hdn]; decide), show NdV.val ⟨xa, xc, .leaf l⟩ = .iface 85 (.slice xa (List.length (α := It) l) xc) from rfl]
 refine J.k4 <| JL.mv (t3 rfl) <| JL.rd (Rd.asNo (t0 rfl) (by decide) Tryz.runUnderlying89 (fun _ h => by cases h) Tryz.zeroValue89) ?_
 refine JL.mv (t0 rfl) <| JL.e (t0 rfl) <| JL.e (t1 rfl) <| JL.as (t1 rfl) <| JL.as (t1 rfl) <| JL.n5 <| JL.mv (t0 rfl) <| JL.rd (Rd.not (EvB (t0 rfl) rfl)) <| JL.n2 <| J.condT (EvB (t0 rfl) rfl) <| J.seq <| J.nodeGet (List.mem_singleton.2 rfl) (by repeat constructor) ?_
 intro hxc
 have hxc2 : List.length (α := It) l ≤ xc := Nat.le_trans (Nat.le_of_eq (List.length_map (α := It) itc).symm) hxc
 refine J.region <| JL.mv (t24 rfl) <| JL.mv (t13 rfl) <| JL.rd (Rd.asT (t0 rfl) Tryz.runUnderlying85 (fun _ h => by cases h)) <| JL.ef (Ef.callv (t2 rfl) (.cons (t0 rfl) .nil) (hE xa xc l hn.2.2.1 hxc2 (by omega) hQ) (by repeat constructor) ?_)
 rintro ⟨ea, ec⟩ hec
 simp only [cA, nA]
 refine JL.ef (Ef.call (.cons (t0 rfl) .nil) (lpack_all (edS mk key l).length ea _ ec (edS mk key l) rfl (Nat.le_refl _) ed1 hec (by omega) (by omega)) (by repeat constructor) ?_)
 rintro ⟨pa, pc, px⟩ hpx
 simp only [cA, nA]
 exact JL.as (t0 rfl) <| JL.as Ev.c <| JL.nr <| At.nextR <| At.ret ((pa, pc, px)) (by rw [hr]; exact hpx) (ResV.two rfl (t1 rfl) (t0 rfl)) (by rw [hr]) (fun _ s => by rw [hr]; exact Stars.sel (by repeat constructor) s)
theorem inner_facts {h : Nat} {x : Tr (h + 1)} (hn : NdOk (nd (h + 1) x)) : 2 ≤ (asK x).length ∧ ((asK x).map kdp).tail.Pairwise fun a b => slt a.1 b.1 = true := by
  obtain ⟨b0, t0, e0, h1, _, _, h4, _⟩ := hn
  have e1 : (asK x).map kdp = ([], b0) :: t0 := e0
  have hl := congrArg List.length e1
  rw [List.length_map] at hl
  have := List.length_pos_iff.2 h1
  exact ⟨by simp at hl; omega, by rw [e1]; exact h4⟩
theorem repl_down {f : Nat} {key : Bs} {mk : List It} {h : Nat} {x : Tr (h + 1)} {b : Nat} {st : BSt} (hd : st.D.down = true) : replT f key mk (h + 1) x b st = (goneT st b, 29, []) := by
  unfold replT; rw [if_pos hd]
theorem repl_err {f : Nat} {key : Bs} {mk : List It} {h : Nat} {x : Tr (h + 1)} {b : Nat} {st : BSt} {kd : Kt h} {r : BSt × Int × List (Tr h)} (hd : st.D.down = false) (hc : (asK x)[childF (asK x) key]? = some kd) (hr : r = replT f key mk h kd.2.2 kd.2.1 (goneT st b)) (he : r.2.1 ≠ 0) : replT f key mk (h + 1) x b st = (r.1, r.2.1, []) := by
  subst hr
  conv => lhs; unfold replT
  rw [if_neg (by rw [hd]; decide), hc]
  dsimp only
  rw [if_pos he]
theorem repl_end {f : Nat} {key : Bs} {mk : List It} {h : Nat} {x : Tr (h + 1)} {b : Nat} {st : BSt} {kd : Kt h} {r : BSt × Int × List (Tr h)} (hd : st.D.down = false) (hc : (asK x)[childF (asK x) key]? = some kd) (hr : r = replT f key mk h kd.2.2 kd.2.1 (goneT st b)) (he : r.2.1 = 0) (hs : smallL r.2.2 = false) :
    replT f key mk (h + 1) x b st = endT f (asK x) r.2.2 (childF (asK x) key) (childF (asK x) key + 1) r.1 := by
  subst hr
  conv => lhs; unfold replT
  rw [if_neg (by rw [hd]; decide), hc]
  dsimp only
  rw [if_neg (by rw [he]; decide), if_neg (by rw [hs]; simp)]
theorem repl_join {f : Nat} {key : Bs} {mk : List It} {h : Nat} {x : Tr (h + 1)} {b : Nat} {st : BSt} {kd : Kt h} {r : BSt × Int × List (Tr h)} (hd : st.D.down = false) (hc : (asK x)[childF (asK x) key]? = some kd) (hr : r = replT f key mk h kd.2.2 kd.2.1 (goneT st b)) (he : r.2.1 = 0) (hs : smallL r.2.2 = true) (h2 : 2 ≤ (asK x).length) :
    replT f key mk (h + 1) x b st = joinT f (asK x) (childF (asK x) key) r := by
  subst hr
  conv => lhs; unfold replT
  rw [if_neg (by rw [hd]; decide), hc]
  dsimp only
  rw [if_neg (by rw [he]; decide), if_pos ⟨hs, h2⟩]
theorem join_eq {f h : Nat} {x : List (Kt h)} {i : Nat} {r : BSt × Int × List (Tr h)} {o : Kt h} {a : Tr h} (ho : x[if i = 0 then 1 else i - 1]? = some o) (ha : r.2.2 = [a]) :
    joinT f x i r = if r.1.D.down then (goneT r.1 o.2.1, 29, []) else if i = 0 then endT f x (join2 h a o.2.2 (keyAt x 1)) 0 2 (goneT r.1 o.2.1) else endT f x (join2 h o.2.2 a (keyAt x i)) (i - 1) (i + 1) (goneT r.1 o.2.1) := by
  unfold joinT
  rw [ho, ha]
def Tr.dflt : (h : Nat) → Tr h
  | 0 => ([] : List It)
  | h + 1 => ([] : List (Kt h))
theorem one_of {h : Nat} {ys : List NdV} {ts : List (Tr h)} (hys : ys.map (·.n) = ts.map (nd h)) : ∃ (y1 : Option Addr) (y2 : Nat) (tt : Tr h), ys.length = 1 → ys = [⟨y1, y2, nd h tt⟩] ∧ ts = [tt] := by
  by_cases hl : ys.length = 1
  · match ys, ts, hl, hys with
    | [⟨y1, y2, n⟩], [tt], _, hys =>
      refine ⟨y1, y2, tt, fun _ => ⟨?_, rfl⟩⟩
      simp at hys
      rw [hys]
    | [y], [], _, hys => simp at hys
    | [y], _ :: _ :: _, _, hys => simp at hys
  · exact ⟨none, 0, Tr.dflt h, fun h => absurd h hl⟩
theorem small_not {h : Nat} {ts : List (Tr h)} (hl : ts.length ≠ 1) : smallL ts = false := by
  match ts, hl with
  | [], _ => rfl
  | [t], hl => exact absurd rfl hl
  | _ :: _ :: _, _ => rfl
theorem keyAt_eq {h : Nat} {x : List (Kt h)} {i : Nat} {p : Kt h} (hp : x[i]? = some p) : keyAt x i = p.1 := by unfold keyAt; rw [hp]; rfl

set_option maxHeartbeats 2000000 in
theorem repl_l (c t d m f : Nat) (root : Int) (hf : f ≤ 1073741824) (key : Bs) (mk : List It) (hmk : ∀ e ∈ mk, itOk e) (hmk1 : mk.length ≤ 1) (gf : Nat) (caps : List Value) (Kc : Assn) (Qp : List It → Prop) (_ : ∀ (a : Option Addr) (cap : Nat) (l : List It), sorted l → l.length ≤ cap → l.length ≤ 10000 → Qp l → Fn Tryz.prog gf (.slice a l.length cap :: caps) [rowR a 2 (l.map itc), Kc] (X := Option Addr × Nat) (fun x => (edS mk key l).length ≤ x.2) (fun x => .slice x.1 (edS mk key l).length x.2) (fun x => [rowR x.1 2 ((edS mk key l).map itc), Kc])) (ih : ∀ (tr : Tr 0) (b : Nat) (st : BSt), Hd f st.D st.s 0 tr b → StOk st → st.gn.length + 2 * 0 + 2 ≤ 1048576 → Qp (leafAt key 0 tr) → Fn Tryz.prog 64 [.pointer (some ⟨c, 0, none⟩), .int .i64 (b : Int), str key, .func (.func gf) #[] caps.toArray] [chA c t st.tk st.gn, pts t (.cells [.pointer (some ⟨d, 0, none⟩), .pointer (some ⟨m, 0, none⟩), .int .i64 root].toArray 68), dk d st.D, bm m f st.s, Kc] (X := Option Addr × Nat × List NdV) (fun z => z.2.2.map (·.n) = (replT f key mk 0 tr b st).2.2.map (nd 0)) (fun z => .tuple #[.slice z.1 z.2.2.length z.2.1, .int .i64 (replT f key mk 0 tr b st).2.1]) (fun z => [row z.1 z.2.1 76 1 (nvals z.2.2), nodesM z.2.2, chA c t (replT f key mk 0 tr b st).1.tk (replT f key mk 0 tr b st).1.gn, pts t (.cells [.pointer (some ⟨d, 0, none⟩), .pointer (some ⟨m, 0, none⟩), .int .i64 root].toArray 68), dk d (replT f key mk 0 tr b st).1.D, bm m f (replT f key mk 0 tr b st).1.s, Kc])) (x : Tr (0 + 1)) (b : Nat) (st : BSt) (hH : Hd f st.D st.s (0 + 1) x b) (hok : StOk st) (hg : st.gn.length + 2 * (0 + 1) + 2 ≤ 1048576) (hQ : Qp (leafAt key (0 + 1) x)) :
    Fn Tryz.prog 64 [.pointer (some ⟨c, 0, none⟩), .int .i64 (b : Int), str key, .func (.func gf) #[] caps.toArray] [chA c t st.tk st.gn, pts t (.cells [.pointer (some ⟨d, 0, none⟩), .pointer (some ⟨m, 0, none⟩), .int .i64 root].toArray 68), dk d st.D, bm m f st.s, Kc] (X := Option Addr × Nat × List NdV) (fun z => z.2.2.map (·.n) = (replT f key mk (0 + 1) x b st).2.2.map (nd (0 + 1))) (fun z => .tuple #[.slice z.1 z.2.2.length z.2.1, .int .i64 (replT f key mk (0 + 1) x b st).2.1]) (fun z => [row z.1 z.2.1 76 1 (nvals z.2.2), nodesM z.2.2, chA c t (replT f key mk (0 + 1) x b st).1.tk (replT f key mk (0 + 1) x b st).1.gn, pts t (.cells [.pointer (some ⟨d, 0, none⟩), .pointer (some ⟨m, 0, none⟩), .int .i64 root].toArray 68), dk d (replT f key mk (0 + 1) x b st).1.D, bm m f (replT f key mk (0 + 1) x b st).1.s, Kc]) := by
 refine Fn.mk' (n := 177) (l := [(0, .pointer (some ⟨c, 0, none⟩)), (1, .int .i64 (b : Int)), (2, str key), (3, .func (.func gf) #[] caps.toArray)]) (fn := Tryz.f64) Tryz.func64 (by kernel_rfl) rfl rfl (by simp) rfl ?_
 intro h0 w0
 obtain ⟨hb, _, hn, hv, hsub⟩ := hH
 obtain ⟨kx1, kx2, kx3⟩ := nd_kids hn.g
 obtain ⟨h2x, hpw⟩ := inner_facts hn
 obtain ⟨i, hi⟩ : ∃ i, i = childF (asK x) key := ⟨_, rfl⟩
 have hil : i < (asK x).length := by rw [hi]; exact childF_lt kx3 key
 obtain ⟨kd, hc⟩ : ∃ e, (asK x)[i]? = some e := ⟨_, List.getElem?_eq_getElem hil⟩
 have hc0 : (asK x)[childF (asK x) key]? = some kd := by rw [← hi]; exact hc
 have e0 := Ext.gone f st b
 have g0 : (goneT st b).gn.length = st.gn.length + 1 := by show (st.gn ++ [b]).length = _; simp
 obtain ⟨o1, o2, o3, o4⟩ := replT_ok (key := key) hf hmk hmk1 0 kd.2.2 kd.2.1 (goneT st b) (hsub kd (List.mem_of_getElem? hc)) (e0.ok hok)
 obtain ⟨r, hr⟩ : ∃ r, r = replT f key mk 0 kd.2.2 kd.2.1 (goneT st b) := ⟨_, rfl⟩
 rw [← hr] at o1 o2 o3 o4
 have hxk : (kcs (asK x))[(i : Int).toNat]? = some [str kd.1, .int .i64 (kd.2.1 : Int)] := kcs_get hc
 have hleaf : leafAt key (0 + 1) x = leafAt key 0 kd.2.2 := by conv => lhs; unfold leafAt; rw [hc0]
 rw [hleaf] at hQ
 refine J.sr <| JL.as Ev.c <| JL.as Ev.c <| JL.n4 <| JL.mv (t2 rfl) <| JL.mv (t4 rfl) <| JL.ef (Ef.call (.cons (t1 rfl) (.cons (t0 rfl) .nil)) (copen_any c t d m root st.tk st.gn st.D b (nd (0 + 1) x) (by omega) hb hn hv) (by repeat constructor) ?_)
 rintro ⟨xa, xc, xn⟩ hx
 simp only [cA, nA]
 refine JL.mv (t0 rfl) <| JL.e (t0 rfl) <| JL.e (t1 rfl) <| JL.as (t1 rfl) <| JL.as (t1 rfl) <| JL.n5 <| JL.mv (t0 rfl) <| JL.rd (Rd.neq (t0 rfl) Ev.c) <| JL.n2 <| J.condD (t0 rfl) ?_ ?_
 intro hc1
 have hdn : st.D.down = true := by
   by_cases hd : st.D.down = true
   · exact hd
   · exfalso; exact hc1 (by unfold rdC; rw [if_neg hd])
 have hfin : (replT f key mk (0 + 1) x b st) = (goneT st b, 29, []) := repl_down hdn
 have hrc : rdC st.D = 29 := if_pos hdn
 exact J.sr <| JL.mv (t2 rfl) <| JL.as Ev.c <| JL.as (t1 rfl) <| JL.nr <| At.nextR <| At.ret ((none, 0, [])) (by rw [hfin]; rfl) (ResV.two rfl (t1 rfl) (t0 rfl)) (by first | (rw [hfin]; done) | (rw [hfin]; rfl) | (rw [hfin, hrc]; rfl)) (fun _ s => by rw [hfin]; exact row_nil 76 1 (nodesM_nil (Stars.sel (by repeat constructor) s)))
 intro hc1
 have hdn : st.D.down = false := by
   by_cases hd : st.D.down = true
   · exfalso; exact hc1 (by unfold rdC; rw [if_pos hd]; decide)
   · simpa using hd
 obtain rfl : xn = nd (0 + 1) x := hx hdn
 rw [if_neg (by rw [hdn]; decide), show NdV.val ⟨xa, xc, nd (0 + 1) x⟩ = .iface 89 (.slice xa ((asK x).map kdp).length xc) from rfl, List.length_map]
 refine J.k4 <| JL.mv (t3 rfl) <| JL.rd (Rd.asOk (t0 rfl) Tryz.runUnderlying89 (fun _ h => by cases h)) <| JL.mv (t0 rfl) <| JL.e (t0 rfl) <| JL.e (t1 rfl) <| JL.as (t1 rfl) <| JL.as (t1 rfl) <| JL.n5 <| JL.mv (t0 rfl) <| JL.rd (Rd.not (EvB (t0 rfl) rfl)) <| JL.n2 <| J.condF (EvB (t0 rfl) rfl) <| J.skip <| At.next <| J.seq <| J.nodeGet (List.mem_singleton.2 rfl) (by repeat constructor) ?_
 intro hxc
 rw [show (⟨xa, xc, nd (0 + 1) x⟩ : NdV).cells = kcs (asK x) from rfl] at hxc
 rw [show (⟨xa, xc, nd (0 + 1) x⟩ : NdV).cells = kcs (asK x) from rfl]
 rw [kcs_length] at hxc
 have hxc3 : (asK x).length ≤ xc := hxc
 refine J.region <| JL.mv (t3 rfl) <| JL.mv (t24 rfl) <| JL.ef (Ef.call (.cons (t1 rfl) (.cons (t0 rfl) .nil)) (child_at xa (asK x).length xc ((asK x).map kdp) key (List.length_map _) (by rw [List.length_map]; omega) hpw (by rw [List.length_map]; omega)) (by repeat constructor) ?_)
 rintro - -
 rw [childF_map, ← hi]
 simp only [cA, nA]
 refine JL.as (t0 rfl) <| JL.ns <| J.live (K := [(14, _), (12, _), (11, _), (9, _), (8, _), (0, _), (2, _), (3, _)]) ⟨lk0, (lk7 rfl), (lk15 rfl), (lk23 rfl), (lk24 rfl), (lk25 rfl), (lk27 rfl), (lk28 rfl), trivial⟩ ?_
 intro ρ2
 refine J.region <| JL.mv (t5 rfl) <| JL.mv (t2 rfl) <| JL.mv (t2 rfl) <| JL.rd (Rd.sIdx Tryz.runUnderlying89 Tryz.sizeOf91 (t1 rfl) (t0 rfl) (Src.i (by repeat constructor)) (by first | (simp; done) | (simp; omega) | omega | (simp [*]; done) | (simp [*]; omega)) (by omega) (by omega)) ?_
 refine JL.rd (Rd.sFld0 fld_91_1 (t0 rfl) (Src.i (by repeat constructor)) (List.getElem?_eq_some_iff.1 hxk).1) ?_
 refine JL.rd (Rd.sLd Tryz.isAgg3 (t0 rfl) (Src.i (by repeat constructor)) hxk rfl) ?_
 refine JL.mv (t12 rfl) <| JL.mv (t14 rfl) <| JL.ef (Ef.call (.cons (t7 rfl) (.cons (t2 rfl) (.cons (t1 rfl) (.cons (t0 rfl) .nil)))) (ih kd.2.2 kd.2.1 (goneT st b) (hsub kd (List.mem_of_getElem? hc)) (e0.ok hok) (by rw [g0]; omega) hQ) (by repeat constructor) ?_)
 rintro ⟨la, lc, ys⟩ hys
 rw [← hr] at hys
 rw [← hr]
 dsimp only at hys
 simp only [cA, nA]
 refine JL.mv (t0 rfl) <| JL.e (t0 rfl) <| JL.e (t1 rfl) <| JL.as (t1 rfl) <| JL.as (t1 rfl) <| JL.n5 <| JL.mv (t0 rfl) <| JL.rd (Rd.neq (t0 rfl) Ev.c) <| JL.n2 <| J.condD (t0 rfl) ?_ ?_
 intro hc3
 have hfin : (replT f key mk (0 + 1) x b st) = (r.1, r.2.1, []) := repl_err hdn hc0 hr hc3
 exact J.sr <| JL.mv (t2 rfl) <| JL.as Ev.c <| JL.as (t1 rfl) <| JL.nr <| At.nextR <| At.ret ((none, 0, [])) (by rw [hfin]; rfl) (ResV.two rfl (t1 rfl) (t0 rfl)) (by first | (rw [hfin]; done) | (rw [hfin]; rfl) | (rw [hfin, hrc]; rfl)) (fun _ s => by rw [hfin]; exact row_nil 76 1 (nodesM_nil (Stars.sel (by repeat constructor) s)))
 intro hc3
 have he0 : r.2.1 = 0 := by simpa using hc3
 have hyl : ys.length = r.2.2.length := by have := congrArg List.length hys; simpa using this
 obtain ⟨y1, y2, tt, hy1⟩ := one_of hys
 have hnv : ys.length = 1 → (nvals ys)[(0 : Int).toNat]? = some [.iface 85 (.slice y1 (List.length (α := It) tt) y2)] := fun hl1 => by rw [(hy1 hl1).1]; rfl
 refine J.k4 <| JL.mv (t16 rfl) <| JL.mv (t17 rfl) <| JL.rd (Rd.add (t0 rfl) Ev.c (w64 (by omega) (by omega))) ?_
 refine JL.as (t2 rfl) <| JL.as (t1 rfl) <| JL.ns <| J.seq <| J.live (K := [(17, _), (16, _), (11, _), (15, _), (14, _), (12, _), (9, _), (8, _), (0, _)]) ⟨lk0, (lk1 rfl), (lk7 rfl), (lk8 rfl), (lk21 rfl), (lk22 rfl), (lk24 rfl), (lk25 rfl), (lk26 rfl), trivial⟩ ?_
 intro ρ4
 refine J.region <| JL.mv (t3 rfl) <| JL.rd (Rd.len Tryz.runUnderlying132 (t0 rfl)) <| JL.rd (Rd.eql (t0 rfl) Ev.c) <| JL.mv (t0 rfl) <| JL.caseD (t0 rfl) ?_ ?_
 intro hb5p hb5
 refine JL.rdG rfl (EvB (t0 rfl) hb5) rfl (Rd.move (t7 rfl)) <| JL.rdG rfl (EvB (t1 rfl) hb5) rfl (Rd.sIdx Tryz.runUnderlying132 Tryz.sizeOf76 (t0 rfl) Ev.c (Src.i (by repeat constructor)) (by first | (simp; done) | (simp; omega) | omega | (simp [*]; done) | (simp [*]; omega)) (by omega) (by omega)) ?_
 refine JL.rdG rfl (EvB (t2 rfl) hb5) rfl (Rd.sLd Tryz.isAgg76 (t0 rfl) (Src.i (by repeat constructor)) (hnv (by omega)) rfl) ?_
 refine JL.efG rfl (EvB (t3 rfl) hb5) rfl (Ef.callm (t0 rfl) (mth_lsmall _) .nil (lsmall0 y1 y2 (List.length (α := It) tt)) (by repeat constructor) ?_)
 rintro - -
 simp only [nA]
 refine JL.rd (Rd.pickT (EvB (t4 rfl) hb5) (t0 rfl)) <| JL.mv (t0 rfl) <| JL.skG rfl (EvB (t0 rfl) rfl) rfl <| JL.skG rfl (EvB (t1 rfl) rfl) rfl <| JL.skG rfl (EvB (t2 rfl) rfl) rfl <| JL.rd (Rd.pickF (EvB (t3 rfl) rfl) Ev.c) <| JL.n2 <| J.condF (t0 rfl) <| J.skip <| At.next <| J.seq ?_
 rw [show ((i : Int) + 1) = ((i + 1 : Nat) : Int) from rfl]
 have hys3 := hys
 have hLL := o3
 have hLn := o4
 have hsx : StOk r.1 := o1.ok (e0.ok hok)
 have hsn : smallL r.2.2 = false := by
   by_cases hl1 : ys.length = 1
   · obtain ⟨_, hr2⟩ := hy1 hl1; rw [hr2]; rfl
   · exact small_not (by rw [← hyl]; exact hl1)
 have hmir : (replT f key mk (0 + 1) x b st) = endT f (asK x) r.2.2 i (i + 1) r.1 := by rw [hi]; exact repl_end hdn hc0 hr he0 hsn
 obtain ⟨k1, k2, k3, k4, k5⟩ := kidsT_ok hf r.2.2 r.1 hLL hsx
 have hyl3 : r.2.2.length = ys.length := by have := congrArg List.length hys3; simpa using this.symm
 obtain ⟨xf, hxf0⟩ : ∃ xf, (asK x)[(i : Nat)]? = some xf := ⟨_, List.getElem?_eq_getElem (by omega)⟩
 have hka := keyAt_eq hxf0
 have hxf : (kcs (asK x))[((i : Int)).toNat]? = some [str xf.1, .int .i64 (xf.2.1 : Int)] := kcs_get hxf0
 refine J.region <| JL.mv (t22 rfl) <| JL.mv (t18 rfl) <| JL.ef (Ef.call (.cons (t1 rfl) (.cons (t0 rfl) .nil)) (kids_any c t d m f root r.1 0 r.2.2 ys la ys.length lc hys3 hyl3 (by omega) hLL hsx (row la lc 76 1 (nvals ys)) (fun t => SIn.row t)) (by repeat constructor) ?_)
 rintro ⟨ka, kc⟩ -
 obtain ⟨q, hq⟩ : ∃ q, q = kidsT f r.2.2 r.1 := ⟨_, rfl⟩
 rw [← hq] at k1 k2 k3 k4 k5
 rw [← hq]
 simp only [cA, nA]
 refine JL.mv (t0 rfl) <| JL.e (t0 rfl) <| JL.e (t1 rfl) <| JL.as (t1 rfl) <| JL.as (t1 rfl) <| JL.ns <| J.seq <| J.live (K := [(11, _), (24, _), (17, _), (16, _), (12, _), (9, _), (8, _)]) ⟨lk0, (lk1 rfl), (lk22 rfl), (lk23 rfl), (lk27 rfl), (lk28 rfl), (lk29 rfl), trivial⟩ ?_
 intro ρ6
 refine J.region <| JL.mv (t0 rfl) <| JL.rd (Rd.neq (t0 rfl) Ev.c) <| JL.n2 <| J.condD (t0 rfl) ?_ ?_
 intro hc7
 have hfin : (replT f key mk (0 + 1) x b st) = (q.1, q.2.1, []) := by rw [hmir]; unfold endT; rw [← hq, if_pos hc7]
 exact J.sr <| JL.mv (t2 rfl) <| JL.as Ev.c <| JL.as (t1 rfl) <| JL.nr <| At.nextR <| At.ret ((none, 0, [])) (by rw [hfin]; rfl) (ResV.two rfl (t1 rfl) (t0 rfl)) (by first | (rw [hfin]; done) | (rw [hfin]; rfl) | (rw [hfin, hrc]; rfl)) (fun _ s => by rw [hfin]; exact row_nil 76 1 (nodesM_nil (Stars.sel (by repeat constructor) s)))
 intro hc7
 have hq0 : q.2.1 = 0 := by simpa using hc7
 have hfin : (replT f key mk (0 + 1) x b st) = (q.1, 0, packK (midK (asK x) q.2.2 i (i + 1))) := by rw [hmir]; unfold endT; rw [← hq, if_neg (by rw [hq0]; decide)]; rfl
 have hk5 := k5 hq0
 refine J.skip <| At.next <| J.seq <| J.sr <| JL.mv (t3 rfl) <| JL.rd (Rd.len Tryz.runUnderlying89 (t0 rfl)) <| JL.rd (Rd.gtr (t0 rfl) Ev.c) <| JL.n2 <| J.condD (t0 rfl) ?_ ?_
 intro hc8
 obtain ⟨k0, hk0⟩ : ∃ k0, q.2.2[0]? = some k0 := ⟨_, List.getElem?_eq_getElem (by omega)⟩
 have hkf : (kcs q.2.2)[(0 : Int).toNat]? = some [str k0.1, .int .i64 (k0.2.1 : Int)] := kcs_get hk0
 refine J.region <| JL.mv (t6 rfl) <| JL.mv (t10 rfl) <| JL.mv (t10 rfl) <| JL.rd (Rd.sIdx Tryz.runUnderlying89 Tryz.sizeOf91 (t1 rfl) (t0 rfl) (Src.i (by repeat constructor)) (by first | (simp; done) | (simp; omega) | omega | (simp [*]; done) | (simp [*]; omega)) (by omega) (by omega)) ?_
 refine JL.rd (Rd.sFld0 fld_91_0 (t0 rfl) (Src.i (by repeat constructor)) (List.getElem?_eq_some_iff.1 hxf).1) ?_
 refine JL.rd (Rd.sLd Tryz.isAgg9 (t0 rfl) (Src.i (by repeat constructor)) hxf rfl) ?_
 refine JL.rd (Rd.sIdx Tryz.runUnderlying89 Tryz.sizeOf91 (t5 rfl) Ev.c (Src.i (by repeat constructor)) (by first | (simp; done) | (simp; omega) | omega | (simp [*]; done) | (simp [*]; omega)) (by omega) (by omega)) ?_
 refine JL.rd (Rd.sFld0 fld_91_0 (t0 rfl) (Src.i (by repeat constructor)) (List.getElem?_eq_some_iff.1 hkf).1) ?_
 refine JL.ef0 (Ef.sSt Tryz.sizeOf9 (t0 rfl) (t2 rfl) rfl (by repeat constructor) hkf (by decide) rfl ?_)
 rw [show (kcs q.2.2).set (0 : Int).toNat ([str k0.1, .int .i64 (k0.2.1 : Int)].set 0 (str xf.1)) = kcs (setK0 xf.1 q.2.2) from kcs_set0 xf.1 hk0]
 refine JL.ns <| J.node (a := ka) (cap := kc) (xs := kcs (setK0 xf.1 q.2.2)) (.inner ((setK0 xf.1 q.2.2).map kdp)) rfl (by repeat constructor) ?_
 intro hkc
 have hkc3 : q.2.2.length ≤ kc := by simpa using hkc
 obtain ⟨MM, hMM⟩ : ∃ MM, MM = midK (asK x) q.2.2 i (i + 1) := ⟨_, rfl⟩
 obtain ⟨mm1, mm2⟩ := midK_ok (fr := i) (to := (i + 1)) kx1 k3 (by omega)
 rw [← hMM] at mm1 mm2 hfin
 have hmid : (⟨xa, xc, nd (0 + 1) x⟩ : NdV).cells.take i ++ (⟨ka, kc, .inner ((setK0 xf.1 q.2.2).map kdp)⟩ : NdV).cells ++ (⟨xa, xc, nd (0 + 1) x⟩ : NdV).cells.drop (i + 1) = kcs MM := by rw [hMM]; unfold midK; rw [kcs_app, kcs_app, kcs_take, kcs_drop, hka]; rfl
 have hmm3 : ∀ p ∈ MM.map kdp, kdOk p := fun p hp => by obtain ⟨z, hz1, rfl⟩ := List.mem_map.1 hp; exact mm1 z hz1
 have hmsz := sizeI_le hmm3
 rw [List.length_map] at hmsz
 have hxcl : (⟨xa, xc, nd (0 + 1) x⟩ : NdV).cells.length = (asK x).length := kcs_length _
 refine J.draw [lz, lz, lz, lz, lz, lz, lz, ⟨true, 0, 0⟩, ⟨true, 1, 1⟩, ⟨true, 2, 2⟩, ⟨false, 3, 3⟩, ⟨false, 3, 3⟩] [7, 8, 9] mixed rfl <| DRun.at [] [0, 1, 2, 3, 4, 5, 6] rfl rfl ?_ ?_
 exact .nil
 refine DNew.rd rfl (Rd.move (t17 rfl)) <| DNew.rd rfl (Rd.move (t17 rfl)) <| DNew.rd rfl (Rd.slToN Tryz.runUnderlying89 Tryz.sizeOf91 (t1 rfl) (t0 rfl) (by omega)) ?_
 refine DNew.rd rfl (Rd.move (t17 rfl)) <| DNew.rd rfl (Rd.move (t21 rfl)) <| DNew.rd rfl (Rd.move (t20 rfl)) <| DNew.rd rfl (Rd.slFrom Tryz.runUnderlying89 Tryz.sizeOf91 (t1 rfl) (t0 rfl) (by omega)) ?_
 refine DNew.nil <| DRun.ef rfl (Ef.litR (us := [[.slice xa i xc], [.slice ka q.2.2.length kc], [.slice (subA xa 2 (i + 1) xc) ((asK x).length - (i + 1)) (xc - (i + 1))]]) (.cons (t4 rfl) (.cons (t3 rfl) (.cons (t0 rfl) .nil))) (lit3i2 _ _ _ _ _ _ _ _ _) (fun x hx => by simp at hx; rcases hx with rfl | rfl | rfl <;> rfl) rfl rfl (by decide) ?_)
 intro br
 refine DRun.at [] [] rfl rfl ?_ ?_
 exact .nil
 refine DNew.nil <| DRun.ef rfl (Ef.call (.cons (t0 rfl) .nil) ((icat3 br (⟨xa, xc, nd (0 + 1) x⟩ : NdV) (⟨ka, kc, .inner ((setK0 xf.1 q.2.2).map kdp)⟩ : NdV) i (i + 1) (asK x).length q.2.2.length hxcl (by show (kcs (setK0 xf.1 q.2.2)).length = _; simp) (by rw [hxcl]; omega) (by rw [hxcl]; omega) (by rw [hxcl]; show (asK x).length * 2 + (kcs (setK0 xf.1 q.2.2)).length ≤ _; simp only [kcs_length, setK0_length]; omega)).demote) (by repeat constructor) ?_)
 rintro ⟨ga, gc⟩ hgc
 rw [hmid, kcs_length] at hgc
 rw [hmid, kcs_length]
 simp only [cA, nA]
 refine DRun.at [] [] rfl rfl ?_ ?_
 exact .nil
 refine DNew.nil <| DRun.ef rfl (Ef.call (.cons (t0 rfl) .nil) (ipack_all MM.length ga MM.length gc (MM.map kdp) (List.length_map _) (Nat.le_of_eq (List.length_map _)) hmm3 hgc (by omega) (by omega)) (by repeat constructor) ?_)
 rintro ⟨pa, pc, px⟩ hpx
 simp only [cA, nA]
 refine DRun.end [] [10, 11] rfl rfl ?_ ?_
 exact .nil
 exact DNew.rd rfl (Rd.assign (t0 rfl)) <| DNew.rd rfl (Rd.assign Ev.c) <| DNew.n2 <| J.ret <| At.ret ((pa, pc, px)) (by rw [hfin]; show px.map _ = _; rw [packK_map]; exact hpx) (ResV.two rfl (t1 rfl) (t0 rfl)) (by first | (rw [hfin]; done) | (rw [hfin]; rfl) | (rw [hfin, hrc]; rfl)) (fun _ s => by rw [hfin]; exact Stars.sel (by repeat constructor) s)
 intro hc8
 have hq22 : q.2.2 = [] := List.eq_nil_of_length_eq_zero (by omega)
 rw [show kcs q.2.2 = kcs (setK0 xf.1 q.2.2) by rw [hq22]; rfl]
 refine J.skip <| At.next <| J.seq <| J.node (a := ka) (cap := kc) (xs := kcs (setK0 xf.1 q.2.2)) (.inner ((setK0 xf.1 q.2.2).map kdp)) rfl (by repeat constructor) ?_
 intro hkc
 have hkc3 : q.2.2.length ≤ kc := by simpa using hkc
 obtain ⟨MM, hMM⟩ : ∃ MM, MM = midK (asK x) q.2.2 i (i + 1) := ⟨_, rfl⟩
 obtain ⟨mm1, mm2⟩ := midK_ok (fr := i) (to := (i + 1)) kx1 k3 (by omega)
 rw [← hMM] at mm1 mm2 hfin
 have hmid : (⟨xa, xc, nd (0 + 1) x⟩ : NdV).cells.take i ++ (⟨ka, kc, .inner ((setK0 xf.1 q.2.2).map kdp)⟩ : NdV).cells ++ (⟨xa, xc, nd (0 + 1) x⟩ : NdV).cells.drop (i + 1) = kcs MM := by rw [hMM]; unfold midK; rw [kcs_app, kcs_app, kcs_take, kcs_drop, hka]; rfl
 have hmm3 : ∀ p ∈ MM.map kdp, kdOk p := fun p hp => by obtain ⟨z, hz1, rfl⟩ := List.mem_map.1 hp; exact mm1 z hz1
 have hmsz := sizeI_le hmm3
 rw [List.length_map] at hmsz
 have hxcl : (⟨xa, xc, nd (0 + 1) x⟩ : NdV).cells.length = (asK x).length := kcs_length _
 refine J.draw [lz, lz, lz, lz, lz, lz, lz, ⟨true, 0, 0⟩, ⟨true, 1, 1⟩, ⟨true, 2, 2⟩, ⟨false, 3, 3⟩, ⟨false, 3, 3⟩] [7, 8, 9] mixed rfl <| DRun.at [] [0, 1, 2, 3, 4, 5, 6] rfl rfl ?_ ?_
 exact .nil
 refine DNew.rd rfl (Rd.move (t9 rfl)) <| DNew.rd rfl (Rd.move (t9 rfl)) <| DNew.rd rfl (Rd.slToN Tryz.runUnderlying89 Tryz.sizeOf91 (t1 rfl) (t0 rfl) (by omega)) ?_
 refine DNew.rd rfl (Rd.move (t9 rfl)) <| DNew.rd rfl (Rd.move (t13 rfl)) <| DNew.rd rfl (Rd.move (t12 rfl)) <| DNew.rd rfl (Rd.slFrom Tryz.runUnderlying89 Tryz.sizeOf91 (t1 rfl) (t0 rfl) (by omega)) ?_
 refine DNew.nil <| DRun.ef rfl (Ef.litR (us := [[.slice xa i xc], [.slice ka q.2.2.length kc], [.slice (subA xa 2 (i + 1) xc) ((asK x).length - (i + 1)) (xc - (i + 1))]]) (.cons (t4 rfl) (.cons (t3 rfl) (.cons (t0 rfl) .nil))) (lit3i2 _ _ _ _ _ _ _ _ _) (fun x hx => by simp at hx; rcases hx with rfl | rfl | rfl <;> rfl) rfl rfl (by decide) ?_)
 intro br
 refine DRun.at [] [] rfl rfl ?_ ?_
 exact .nil
 refine DNew.nil <| DRun.ef rfl (Ef.call (.cons (t0 rfl) .nil) ((icat3 br (⟨xa, xc, nd (0 + 1) x⟩ : NdV) (⟨ka, kc, .inner ((setK0 xf.1 q.2.2).map kdp)⟩ : NdV) i (i + 1) (asK x).length q.2.2.length hxcl (by show (kcs (setK0 xf.1 q.2.2)).length = _; simp) (by rw [hxcl]; omega) (by rw [hxcl]; omega) (by rw [hxcl]; show (asK x).length * 2 + (kcs (setK0 xf.1 q.2.2)).length ≤ _; simp only [kcs_length, setK0_length]; omega)).demote) (by repeat constructor) ?_)
 rintro ⟨ga, gc⟩ hgc
 rw [hmid, kcs_length] at hgc
 rw [hmid, kcs_length]
 simp only [cA, nA]
 refine DRun.at [] [] rfl rfl ?_ ?_
 exact .nil
 refine DNew.nil <| DRun.ef rfl (Ef.call (.cons (t0 rfl) .nil) (ipack_all MM.length ga MM.length gc (MM.map kdp) (List.length_map _) (Nat.le_of_eq (List.length_map _)) hmm3 hgc (by omega) (by omega)) (by repeat constructor) ?_)
 rintro ⟨pa, pc, px⟩ hpx
 simp only [cA, nA]
 refine DRun.end [] [10, 11] rfl rfl ?_ ?_
 exact .nil
 exact DNew.rd rfl (Rd.assign (t0 rfl)) <| DNew.rd rfl (Rd.assign Ev.c) <| DNew.n2 <| J.ret <| At.ret ((pa, pc, px)) (by rw [hfin]; show px.map _ = _; rw [packK_map]; exact hpx) (ResV.two rfl (t1 rfl) (t0 rfl)) (by first | (rw [hfin]; done) | (rw [hfin]; rfl) | (rw [hfin, hrc]; rfl)) (fun _ s => by rw [hfin]; exact Stars.sel (by repeat constructor) s)
 intro hb5p hb5
 refine JL.skG rfl (EvB (t0 rfl) hb5) rfl <| JL.skG rfl (EvB (t1 rfl) hb5) rfl <| JL.skG rfl (EvB (t2 rfl) hb5) rfl <| JL.skG rfl (EvB (t3 rfl) hb5) rfl <| JL.rd (Rd.pickF (EvB (t4 rfl) hb5) Ev.c) <| JL.mv (t0 rfl) <| JL.skG rfl (t0 rfl) rfl <| JL.skG rfl (t1 rfl) rfl <| JL.skG rfl (t2 rfl) rfl <| JL.rd (Rd.pickF (t3 rfl) Ev.c) <| JL.n2 <| J.condF (t0 rfl) <| J.skip <| At.next <| J.seq ?_
 rw [show ((i : Int) + 1) = ((i + 1 : Nat) : Int) from rfl]
 have hys3 := hys
 have hLL := o3
 have hLn := o4
 have hsx : StOk r.1 := o1.ok (e0.ok hok)
 have hsn : smallL r.2.2 = false := by
   by_cases hl1 : ys.length = 1
   · obtain ⟨_, hr2⟩ := hy1 hl1; rw [hr2]; rfl
   · exact small_not (by rw [← hyl]; exact hl1)
 have hmir : (replT f key mk (0 + 1) x b st) = endT f (asK x) r.2.2 i (i + 1) r.1 := by rw [hi]; exact repl_end hdn hc0 hr he0 hsn
 obtain ⟨k1, k2, k3, k4, k5⟩ := kidsT_ok hf r.2.2 r.1 hLL hsx
 have hyl3 : r.2.2.length = ys.length := by have := congrArg List.length hys3; simpa using this.symm
 obtain ⟨xf, hxf0⟩ : ∃ xf, (asK x)[(i : Nat)]? = some xf := ⟨_, List.getElem?_eq_getElem (by omega)⟩
 have hka := keyAt_eq hxf0
 have hxf : (kcs (asK x))[((i : Int)).toNat]? = some [str xf.1, .int .i64 (xf.2.1 : Int)] := kcs_get hxf0
 refine J.region <| JL.mv (t22 rfl) <| JL.mv (t18 rfl) <| JL.ef (Ef.call (.cons (t1 rfl) (.cons (t0 rfl) .nil)) (kids_any c t d m f root r.1 0 r.2.2 ys la ys.length lc hys3 hyl3 (by omega) hLL hsx (row la lc 76 1 (nvals ys)) (fun t => SIn.row t)) (by repeat constructor) ?_)
 rintro ⟨ka, kc⟩ -
 obtain ⟨q, hq⟩ : ∃ q, q = kidsT f r.2.2 r.1 := ⟨_, rfl⟩
 rw [← hq] at k1 k2 k3 k4 k5
 rw [← hq]
 simp only [cA, nA]
 refine JL.mv (t0 rfl) <| JL.e (t0 rfl) <| JL.e (t1 rfl) <| JL.as (t1 rfl) <| JL.as (t1 rfl) <| JL.ns <| J.seq <| J.live (K := [(11, _), (24, _), (17, _), (16, _), (12, _), (9, _), (8, _)]) ⟨lk0, (lk1 rfl), (lk22 rfl), (lk23 rfl), (lk27 rfl), (lk28 rfl), (lk29 rfl), trivial⟩ ?_
 intro ρ9
 refine J.region <| JL.mv (t0 rfl) <| JL.rd (Rd.neq (t0 rfl) Ev.c) <| JL.n2 <| J.condD (t0 rfl) ?_ ?_
 intro hc10
 have hfin : (replT f key mk (0 + 1) x b st) = (q.1, q.2.1, []) := by rw [hmir]; unfold endT; rw [← hq, if_pos hc10]
 exact J.sr <| JL.mv (t2 rfl) <| JL.as Ev.c <| JL.as (t1 rfl) <| JL.nr <| At.nextR <| At.ret ((none, 0, [])) (by rw [hfin]; rfl) (ResV.two rfl (t1 rfl) (t0 rfl)) (by first | (rw [hfin]; done) | (rw [hfin]; rfl) | (rw [hfin, hrc]; rfl)) (fun _ s => by rw [hfin]; exact row_nil 76 1 (nodesM_nil (Stars.sel (by repeat constructor) s)))
 intro hc10
 have hq0 : q.2.1 = 0 := by simpa using hc10
 have hfin : (replT f key mk (0 + 1) x b st) = (q.1, 0, packK (midK (asK x) q.2.2 i (i + 1))) := by rw [hmir]; unfold endT; rw [← hq, if_neg (by rw [hq0]; decide)]; rfl
 have hk5 := k5 hq0
 refine J.skip <| At.next <| J.seq <| J.sr <| JL.mv (t3 rfl) <| JL.rd (Rd.len Tryz.runUnderlying89 (t0 rfl)) <| JL.rd (Rd.gtr (t0 rfl) Ev.c) <| JL.n2 <| J.condD (t0 rfl) ?_ ?_
 intro hc11
 obtain ⟨k0, hk0⟩ : ∃ k0, q.2.2[0]? = some k0 := ⟨_, List.getElem?_eq_getElem (by omega)⟩
 have hkf : (kcs q.2.2)[(0 : Int).toNat]? = some [str k0.1, .int .i64 (k0.2.1 : Int)] := kcs_get hk0
 refine J.region <| JL.mv (t6 rfl) <| JL.mv (t10 rfl) <| JL.mv (t10 rfl) <| JL.rd (Rd.sIdx Tryz.runUnderlying89 Tryz.sizeOf91 (t1 rfl) (t0 rfl) (Src.i (by repeat constructor)) (by first | (simp; done) | (simp; omega) | omega | (simp [*]; done) | (simp [*]; omega)) (by omega) (by omega)) ?_
 refine JL.rd (Rd.sFld0 fld_91_0 (t0 rfl) (Src.i (by repeat constructor)) (List.getElem?_eq_some_iff.1 hxf).1) ?_
 refine JL.rd (Rd.sLd Tryz.isAgg9 (t0 rfl) (Src.i (by repeat constructor)) hxf rfl) ?_
 refine JL.rd (Rd.sIdx Tryz.runUnderlying89 Tryz.sizeOf91 (t5 rfl) Ev.c (Src.i (by repeat constructor)) (by first | (simp; done) | (simp; omega) | omega | (simp [*]; done) | (simp [*]; omega)) (by omega) (by omega)) ?_
 refine JL.rd (Rd.sFld0 fld_91_0 (t0 rfl) (Src.i (by repeat constructor)) (List.getElem?_eq_some_iff.1 hkf).1) ?_
 refine JL.ef0 (Ef.sSt Tryz.sizeOf9 (t0 rfl) (t2 rfl) rfl (by repeat constructor) hkf (by decide) rfl ?_)
 rw [show (kcs q.2.2).set (0 : Int).toNat ([str k0.1, .int .i64 (k0.2.1 : Int)].set 0 (str xf.1)) = kcs (setK0 xf.1 q.2.2) from kcs_set0 xf.1 hk0]
 refine JL.ns <| J.node (a := ka) (cap := kc) (xs := kcs (setK0 xf.1 q.2.2)) (.inner ((setK0 xf.1 q.2.2).map kdp)) rfl (by repeat constructor) ?_
 intro hkc
 have hkc3 : q.2.2.length ≤ kc := by simpa using hkc
 obtain ⟨MM, hMM⟩ : ∃ MM, MM = midK (asK x) q.2.2 i (i + 1) := ⟨_, rfl⟩
 obtain ⟨mm1, mm2⟩ := midK_ok (fr := i) (to := (i + 1)) kx1 k3 (by omega)
 rw [← hMM] at mm1 mm2 hfin
 have hmid : (⟨xa, xc, nd (0 + 1) x⟩ : NdV).cells.take i ++ (⟨ka, kc, .inner ((setK0 xf.1 q.2.2).map kdp)⟩ : NdV).cells ++ (⟨xa, xc, nd (0 + 1) x⟩ : NdV).cells.drop (i + 1) = kcs MM := by rw [hMM]; unfold midK; rw [kcs_app, kcs_app, kcs_take, kcs_drop, hka]; rfl
 have hmm3 : ∀ p ∈ MM.map kdp, kdOk p := fun p hp => by obtain ⟨z, hz1, rfl⟩ := List.mem_map.1 hp; exact mm1 z hz1
 have hmsz := sizeI_le hmm3
 rw [List.length_map] at hmsz
 have hxcl : (⟨xa, xc, nd (0 + 1) x⟩ : NdV).cells.length = (asK x).length := kcs_length _
 refine J.draw [lz, lz, lz, lz, lz, lz, lz, ⟨true, 0, 0⟩, ⟨true, 1, 1⟩, ⟨true, 2, 2⟩, ⟨false, 3, 3⟩, ⟨false, 3, 3⟩] [7, 8, 9] mixed rfl <| DRun.at [] [0, 1, 2, 3, 4, 5, 6] rfl rfl ?_ ?_
 exact .nil
 refine DNew.rd rfl (Rd.move (t17 rfl)) <| DNew.rd rfl (Rd.move (t17 rfl)) <| DNew.rd rfl (Rd.slToN Tryz.runUnderlying89 Tryz.sizeOf91 (t1 rfl) (t0 rfl) (by omega)) ?_
 refine DNew.rd rfl (Rd.move (t17 rfl)) <| DNew.rd rfl (Rd.move (t21 rfl)) <| DNew.rd rfl (Rd.move (t20 rfl)) <| DNew.rd rfl (Rd.slFrom Tryz.runUnderlying89 Tryz.sizeOf91 (t1 rfl) (t0 rfl) (by omega)) ?_
 refine DNew.nil <| DRun.ef rfl (Ef.litR (us := [[.slice xa i xc], [.slice ka q.2.2.length kc], [.slice (subA xa 2 (i + 1) xc) ((asK x).length - (i + 1)) (xc - (i + 1))]]) (.cons (t4 rfl) (.cons (t3 rfl) (.cons (t0 rfl) .nil))) (lit3i2 _ _ _ _ _ _ _ _ _) (fun x hx => by simp at hx; rcases hx with rfl | rfl | rfl <;> rfl) rfl rfl (by decide) ?_)
 intro br
 refine DRun.at [] [] rfl rfl ?_ ?_
 exact .nil
 refine DNew.nil <| DRun.ef rfl (Ef.call (.cons (t0 rfl) .nil) ((icat3 br (⟨xa, xc, nd (0 + 1) x⟩ : NdV) (⟨ka, kc, .inner ((setK0 xf.1 q.2.2).map kdp)⟩ : NdV) i (i + 1) (asK x).length q.2.2.length hxcl (by show (kcs (setK0 xf.1 q.2.2)).length = _; simp) (by rw [hxcl]; omega) (by rw [hxcl]; omega) (by rw [hxcl]; show (asK x).length * 2 + (kcs (setK0 xf.1 q.2.2)).length ≤ _; simp only [kcs_length, setK0_length]; omega)).demote) (by repeat constructor) ?_)
 rintro ⟨ga, gc⟩ hgc
 rw [hmid, kcs_length] at hgc
 rw [hmid, kcs_length]
 simp only [cA, nA]
 refine DRun.at [] [] rfl rfl ?_ ?_
 exact .nil
 refine DNew.nil <| DRun.ef rfl (Ef.call (.cons (t0 rfl) .nil) (ipack_all MM.length ga MM.length gc (MM.map kdp) (List.length_map _) (Nat.le_of_eq (List.length_map _)) hmm3 hgc (by omega) (by omega)) (by repeat constructor) ?_)
 rintro ⟨pa, pc, px⟩ hpx
 simp only [cA, nA]
 refine DRun.end [] [10, 11] rfl rfl ?_ ?_
 exact .nil
 exact DNew.rd rfl (Rd.assign (t0 rfl)) <| DNew.rd rfl (Rd.assign Ev.c) <| DNew.n2 <| J.ret <| At.ret ((pa, pc, px)) (by rw [hfin]; show px.map _ = _; rw [packK_map]; exact hpx) (ResV.two rfl (t1 rfl) (t0 rfl)) (by first | (rw [hfin]; done) | (rw [hfin]; rfl) | (rw [hfin, hrc]; rfl)) (fun _ s => by rw [hfin]; exact Stars.sel (by repeat constructor) s)
 intro hc11
 have hq22 : q.2.2 = [] := List.eq_nil_of_length_eq_zero (by omega)
 rw [show kcs q.2.2 = kcs (setK0 xf.1 q.2.2) by rw [hq22]; rfl]
 refine J.skip <| At.next <| J.seq <| J.node (a := ka) (cap := kc) (xs := kcs (setK0 xf.1 q.2.2)) (.inner ((setK0 xf.1 q.2.2).map kdp)) rfl (by repeat constructor) ?_
 intro hkc
 have hkc3 : q.2.2.length ≤ kc := by simpa using hkc
 obtain ⟨MM, hMM⟩ : ∃ MM, MM = midK (asK x) q.2.2 i (i + 1) := ⟨_, rfl⟩
 obtain ⟨mm1, mm2⟩ := midK_ok (fr := i) (to := (i + 1)) kx1 k3 (by omega)
 rw [← hMM] at mm1 mm2 hfin
 have hmid : (⟨xa, xc, nd (0 + 1) x⟩ : NdV).cells.take i ++ (⟨ka, kc, .inner ((setK0 xf.1 q.2.2).map kdp)⟩ : NdV).cells ++ (⟨xa, xc, nd (0 + 1) x⟩ : NdV).cells.drop (i + 1) = kcs MM := by rw [hMM]; unfold midK; rw [kcs_app, kcs_app, kcs_take, kcs_drop, hka]; rfl
 have hmm3 : ∀ p ∈ MM.map kdp, kdOk p := fun p hp => by obtain ⟨z, hz1, rfl⟩ := List.mem_map.1 hp; exact mm1 z hz1
 have hmsz := sizeI_le hmm3
 rw [List.length_map] at hmsz
 have hxcl : (⟨xa, xc, nd (0 + 1) x⟩ : NdV).cells.length = (asK x).length := kcs_length _
 refine J.draw [lz, lz, lz, lz, lz, lz, lz, ⟨true, 0, 0⟩, ⟨true, 1, 1⟩, ⟨true, 2, 2⟩, ⟨false, 3, 3⟩, ⟨false, 3, 3⟩] [7, 8, 9] mixed rfl <| DRun.at [] [0, 1, 2, 3, 4, 5, 6] rfl rfl ?_ ?_
 exact .nil
 refine DNew.rd rfl (Rd.move (t9 rfl)) <| DNew.rd rfl (Rd.move (t9 rfl)) <| DNew.rd rfl (Rd.slToN Tryz.runUnderlying89 Tryz.sizeOf91 (t1 rfl) (t0 rfl) (by omega)) ?_
 refine DNew.rd rfl (Rd.move (t9 rfl)) <| DNew.rd rfl (Rd.move (t13 rfl)) <| DNew.rd rfl (Rd.move (t12 rfl)) <| DNew.rd rfl (Rd.slFrom Tryz.runUnderlying89 Tryz.sizeOf91 (t1 rfl) (t0 rfl) (by omega)) ?_
 refine DNew.nil <| DRun.ef rfl (Ef.litR (us := [[.slice xa i xc], [.slice ka q.2.2.length kc], [.slice (subA xa 2 (i + 1) xc) ((asK x).length - (i + 1)) (xc - (i + 1))]]) (.cons (t4 rfl) (.cons (t3 rfl) (.cons (t0 rfl) .nil))) (lit3i2 _ _ _ _ _ _ _ _ _) (fun x hx => by simp at hx; rcases hx with rfl | rfl | rfl <;> rfl) rfl rfl (by decide) ?_)
 intro br
 refine DRun.at [] [] rfl rfl ?_ ?_
 exact .nil
 refine DNew.nil <| DRun.ef rfl (Ef.call (.cons (t0 rfl) .nil) ((icat3 br (⟨xa, xc, nd (0 + 1) x⟩ : NdV) (⟨ka, kc, .inner ((setK0 xf.1 q.2.2).map kdp)⟩ : NdV) i (i + 1) (asK x).length q.2.2.length hxcl (by show (kcs (setK0 xf.1 q.2.2)).length = _; simp) (by rw [hxcl]; omega) (by rw [hxcl]; omega) (by rw [hxcl]; show (asK x).length * 2 + (kcs (setK0 xf.1 q.2.2)).length ≤ _; simp only [kcs_length, setK0_length]; omega)).demote) (by repeat constructor) ?_)
 rintro ⟨ga, gc⟩ hgc
 rw [hmid, kcs_length] at hgc
 rw [hmid, kcs_length]
 simp only [cA, nA]
 refine DRun.at [] [] rfl rfl ?_ ?_
 exact .nil
 refine DNew.nil <| DRun.ef rfl (Ef.call (.cons (t0 rfl) .nil) (ipack_all MM.length ga MM.length gc (MM.map kdp) (List.length_map _) (Nat.le_of_eq (List.length_map _)) hmm3 hgc (by omega) (by omega)) (by repeat constructor) ?_)
 rintro ⟨pa, pc, px⟩ hpx
 simp only [cA, nA]
 refine DRun.end [] [10, 11] rfl rfl ?_ ?_
 exact .nil
 exact DNew.rd rfl (Rd.assign (t0 rfl)) <| DNew.rd rfl (Rd.assign Ev.c) <| DNew.n2 <| J.ret <| At.ret ((pa, pc, px)) (by rw [hfin]; show px.map _ = _; rw [packK_map]; exact hpx) (ResV.two rfl (t1 rfl) (t0 rfl)) (by first | (rw [hfin]; done) | (rw [hfin]; rfl) | (rw [hfin, hrc]; rfl)) (fun _ s => by rw [hfin]; exact Stars.sel (by repeat constructor) s)

set_option maxHeartbeats 2000000 in
theorem repl_i (c t d m f : Nat) (root : Int) (hf : f ≤ 1073741824) (key : Bs) (mk : List It) (hmk : ∀ e ∈ mk, itOk e) (hmk1 : mk.length ≤ 1) (gf : Nat) (caps : List Value) (Kc : Assn) (Qp : List It → Prop) (_ : ∀ (a : Option Addr) (cap : Nat) (l : List It), sorted l → l.length ≤ cap → l.length ≤ 10000 → Qp l → Fn Tryz.prog gf (.slice a l.length cap :: caps) [rowR a 2 (l.map itc), Kc] (X := Option Addr × Nat) (fun x => (edS mk key l).length ≤ x.2) (fun x => .slice x.1 (edS mk key l).length x.2) (fun x => [rowR x.1 2 ((edS mk key l).map itc), Kc])) (h : Nat) (hh : h ≤ 31) (ih : ∀ (tr : Tr (h + 1)) (b : Nat) (st : BSt), Hd f st.D st.s (h + 1) tr b → StOk st → st.gn.length + 2 * (h + 1) + 2 ≤ 1048576 → Qp (leafAt key (h + 1) tr) → Fn Tryz.prog 64 [.pointer (some ⟨c, 0, none⟩), .int .i64 (b : Int), str key, .func (.func gf) #[] caps.toArray] [chA c t st.tk st.gn, pts t (.cells [.pointer (some ⟨d, 0, none⟩), .pointer (some ⟨m, 0, none⟩), .int .i64 root].toArray 68), dk d st.D, bm m f st.s, Kc] (X := Option Addr × Nat × List NdV) (fun z => z.2.2.map (·.n) = (replT f key mk (h + 1) tr b st).2.2.map (nd (h + 1))) (fun z => .tuple #[.slice z.1 z.2.2.length z.2.1, .int .i64 (replT f key mk (h + 1) tr b st).2.1]) (fun z => [row z.1 z.2.1 76 1 (nvals z.2.2), nodesM z.2.2, chA c t (replT f key mk (h + 1) tr b st).1.tk (replT f key mk (h + 1) tr b st).1.gn, pts t (.cells [.pointer (some ⟨d, 0, none⟩), .pointer (some ⟨m, 0, none⟩), .int .i64 root].toArray 68), dk d (replT f key mk (h + 1) tr b st).1.D, bm m f (replT f key mk (h + 1) tr b st).1.s, Kc])) (x : Tr ((h + 1) + 1)) (b : Nat) (st : BSt) (hH : Hd f st.D st.s ((h + 1) + 1) x b) (hok : StOk st) (hg : st.gn.length + 2 * ((h + 1) + 1) + 2 ≤ 1048576) (hQ : Qp (leafAt key ((h + 1) + 1) x)) :
    Fn Tryz.prog 64 [.pointer (some ⟨c, 0, none⟩), .int .i64 (b : Int), str key, .func (.func gf) #[] caps.toArray] [chA c t st.tk st.gn, pts t (.cells [.pointer (some ⟨d, 0, none⟩), .pointer (some ⟨m, 0, none⟩), .int .i64 root].toArray 68), dk d st.D, bm m f st.s, Kc] (X := Option Addr × Nat × List NdV) (fun z => z.2.2.map (·.n) = (replT f key mk ((h + 1) + 1) x b st).2.2.map (nd ((h + 1) + 1))) (fun z => .tuple #[.slice z.1 z.2.2.length z.2.1, .int .i64 (replT f key mk ((h + 1) + 1) x b st).2.1]) (fun z => [row z.1 z.2.1 76 1 (nvals z.2.2), nodesM z.2.2, chA c t (replT f key mk ((h + 1) + 1) x b st).1.tk (replT f key mk ((h + 1) + 1) x b st).1.gn, pts t (.cells [.pointer (some ⟨d, 0, none⟩), .pointer (some ⟨m, 0, none⟩), .int .i64 root].toArray 68), dk d (replT f key mk ((h + 1) + 1) x b st).1.D, bm m f (replT f key mk ((h + 1) + 1) x b st).1.s, Kc]) := by
 refine Fn.mk' (n := 177) (l := [(0, .pointer (some ⟨c, 0, none⟩)), (1, .int .i64 (b : Int)), (2, str key), (3, .func (.func gf) #[] caps.toArray)]) (fn := Tryz.f64) Tryz.func64 (by kernel_rfl) rfl rfl (by simp) rfl ?_
 intro h0 w0
 obtain ⟨hb, _, hn, hv, hsub⟩ := hH
 obtain ⟨kx1, kx2, kx3⟩ := nd_kids hn.g
 obtain ⟨h2x, hpw⟩ := inner_facts hn
 obtain ⟨i, hi⟩ : ∃ i, i = childF (asK x) key := ⟨_, rfl⟩
 have hil : i < (asK x).length := by rw [hi]; exact childF_lt kx3 key
 obtain ⟨kd, hc⟩ : ∃ e, (asK x)[i]? = some e := ⟨_, List.getElem?_eq_getElem hil⟩
 have hc0 : (asK x)[childF (asK x) key]? = some kd := by rw [← hi]; exact hc
 have e0 := Ext.gone f st b
 have g0 : (goneT st b).gn.length = st.gn.length + 1 := by show (st.gn ++ [b]).length = _; simp
 obtain ⟨o1, o2, o3, o4⟩ := replT_ok (key := key) hf hmk hmk1 (h + 1) kd.2.2 kd.2.1 (goneT st b) (hsub kd (List.mem_of_getElem? hc)) (e0.ok hok)
 obtain ⟨r, hr⟩ : ∃ r, r = replT f key mk (h + 1) kd.2.2 kd.2.1 (goneT st b) := ⟨_, rfl⟩
 rw [← hr] at o1 o2 o3 o4
 have hxk : (kcs (asK x))[(i : Int).toNat]? = some [str kd.1, .int .i64 (kd.2.1 : Int)] := kcs_get hc
 have hleaf : leafAt key ((h + 1) + 1) x = leafAt key (h + 1) kd.2.2 := by conv => lhs; unfold leafAt; rw [hc0]
 rw [hleaf] at hQ
 refine J.sr <| JL.as Ev.c <| JL.as Ev.c <| JL.n4 <| JL.mv (t2 rfl) <| JL.mv (t4 rfl) <| JL.ef (Ef.call (.cons (t1 rfl) (.cons (t0 rfl) .nil)) (copen_any c t d m root st.tk st.gn st.D b (nd ((h + 1) + 1) x) (by omega) hb hn hv) (by repeat constructor) ?_)
 rintro ⟨xa, xc, xn⟩ hx
 simp only [cA, nA]
 refine JL.mv (t0 rfl) <| JL.e (t0 rfl) <| JL.e (t1 rfl) <| JL.as (t1 rfl) <| JL.as (t1 rfl) <| JL.n5 <| JL.mv (t0 rfl) <| JL.rd (Rd.neq (t0 rfl) Ev.c) <| JL.n2 <| J.condD (t0 rfl) ?_ ?_
 intro hc1
 have hdn : st.D.down = true := by
   by_cases hd : st.D.down = true
   · exact hd
   · exfalso; exact hc1 (by unfold rdC; rw [if_neg hd])
 have hfin : (replT f key mk ((h + 1) + 1) x b st) = (goneT st b, 29, []) := repl_down hdn
 have hrc : rdC st.D = 29 := if_pos hdn
 exact J.sr <| JL.mv (t2 rfl) <| JL.as Ev.c <| JL.as (t1 rfl) <| JL.nr <| At.nextR <| At.ret ((none, 0, [])) (by rw [hfin]; rfl) (ResV.two rfl (t1 rfl) (t0 rfl)) (by first | (rw [hfin]; done) | (rw [hfin]; rfl) | (rw [hfin, hrc]; rfl)) (fun _ s => by rw [hfin]; exact row_nil 76 1 (nodesM_nil (Stars.sel (by repeat constructor) s)))
 intro hc1
 have hdn : st.D.down = false := by
   by_cases hd : st.D.down = true
   · exfalso; exact hc1 (by unfold rdC; rw [if_pos hd]; decide)
   · simpa using hd
 obtain rfl : xn = nd ((h + 1) + 1) x := hx hdn
 rw [if_neg (by rw [hdn]; decide), show NdV.val ⟨xa, xc, nd ((h + 1) + 1) x⟩ = .iface 89 (.slice xa ((asK x).map kdp).length xc) from rfl, List.length_map]
 refine J.k4 <| JL.mv (t3 rfl) <| JL.rd (Rd.asOk (t0 rfl) Tryz.runUnderlying89 (fun _ h => by cases h)) <| JL.mv (t0 rfl) <| JL.e (t0 rfl) <| JL.e (t1 rfl) <| JL.as (t1 rfl) <| JL.as (t1 rfl) <| JL.n5 <| JL.mv (t0 rfl) <| JL.rd (Rd.not (EvB (t0 rfl) rfl)) <| JL.n2 <| J.condF (EvB (t0 rfl) rfl) <| J.skip <| At.next <| J.seq <| J.nodeGet (List.mem_singleton.2 rfl) (by repeat constructor) ?_
 intro hxc
 rw [show (⟨xa, xc, nd ((h + 1) + 1) x⟩ : NdV).cells = kcs (asK x) from rfl] at hxc
 rw [show (⟨xa, xc, nd ((h + 1) + 1) x⟩ : NdV).cells = kcs (asK x) from rfl]
 rw [kcs_length] at hxc
 have hxc3 : (asK x).length ≤ xc := hxc
 refine J.region <| JL.mv (t3 rfl) <| JL.mv (t24 rfl) <| JL.ef (Ef.call (.cons (t1 rfl) (.cons (t0 rfl) .nil)) (child_at xa (asK x).length xc ((asK x).map kdp) key (List.length_map _) (by rw [List.length_map]; omega) hpw (by rw [List.length_map]; omega)) (by repeat constructor) ?_)
 rintro - -
 rw [childF_map, ← hi]
 simp only [cA, nA]
 refine JL.as (t0 rfl) <| JL.ns <| J.live (K := [(14, _), (12, _), (11, _), (9, _), (8, _), (0, _), (2, _), (3, _)]) ⟨lk0, (lk7 rfl), (lk15 rfl), (lk23 rfl), (lk24 rfl), (lk25 rfl), (lk27 rfl), (lk28 rfl), trivial⟩ ?_
 intro ρ2
 refine J.region <| JL.mv (t5 rfl) <| JL.mv (t2 rfl) <| JL.mv (t2 rfl) <| JL.rd (Rd.sIdx Tryz.runUnderlying89 Tryz.sizeOf91 (t1 rfl) (t0 rfl) (Src.i (by repeat constructor)) (by first | (simp; done) | (simp; omega) | omega | (simp [*]; done) | (simp [*]; omega)) (by omega) (by omega)) ?_
 refine JL.rd (Rd.sFld0 fld_91_1 (t0 rfl) (Src.i (by repeat constructor)) (List.getElem?_eq_some_iff.1 hxk).1) ?_
 refine JL.rd (Rd.sLd Tryz.isAgg3 (t0 rfl) (Src.i (by repeat constructor)) hxk rfl) ?_
 refine JL.mv (t12 rfl) <| JL.mv (t14 rfl) <| JL.ef (Ef.call (.cons (t7 rfl) (.cons (t2 rfl) (.cons (t1 rfl) (.cons (t0 rfl) .nil)))) (ih kd.2.2 kd.2.1 (goneT st b) (hsub kd (List.mem_of_getElem? hc)) (e0.ok hok) (by rw [g0]; omega) hQ) (by repeat constructor) ?_)
 rintro ⟨la, lc, ys⟩ hys
 rw [← hr] at hys
 rw [← hr]
 dsimp only at hys
 simp only [cA, nA]
 refine JL.mv (t0 rfl) <| JL.e (t0 rfl) <| JL.e (t1 rfl) <| JL.as (t1 rfl) <| JL.as (t1 rfl) <| JL.n5 <| JL.mv (t0 rfl) <| JL.rd (Rd.neq (t0 rfl) Ev.c) <| JL.n2 <| J.condD (t0 rfl) ?_ ?_
 intro hc3
 have hfin : (replT f key mk ((h + 1) + 1) x b st) = (r.1, r.2.1, []) := repl_err hdn hc0 hr hc3
 exact J.sr <| JL.mv (t2 rfl) <| JL.as Ev.c <| JL.as (t1 rfl) <| JL.nr <| At.nextR <| At.ret ((none, 0, [])) (by rw [hfin]; rfl) (ResV.two rfl (t1 rfl) (t0 rfl)) (by first | (rw [hfin]; done) | (rw [hfin]; rfl) | (rw [hfin, hrc]; rfl)) (fun _ s => by rw [hfin]; exact row_nil 76 1 (nodesM_nil (Stars.sel (by repeat constructor) s)))
 intro hc3
 have he0 : r.2.1 = 0 := by simpa using hc3
 have hyl : ys.length = r.2.2.length := by have := congrArg List.length hys; simpa using this
 obtain ⟨y1, y2, tt, hy1⟩ := one_of hys
 have hnv : ys.length = 1 → (nvals ys)[(0 : Int).toNat]? = some [.iface 89 (.slice y1 (asK tt).length y2)] := fun hl1 => by rw [(hy1 hl1).1]; show some [Value.iface 89 (.slice y1 ((asK tt).map kdp).length y2)] = _; rw [List.length_map]
 refine J.k4 <| JL.mv (t16 rfl) <| JL.mv (t17 rfl) <| JL.rd (Rd.add (t0 rfl) Ev.c (w64 (by omega) (by omega))) ?_
 refine JL.as (t2 rfl) <| JL.as (t1 rfl) <| JL.ns <| J.seq <| J.live (K := [(17, _), (16, _), (11, _), (15, _), (14, _), (12, _), (9, _), (8, _), (0, _)]) ⟨lk0, (lk1 rfl), (lk7 rfl), (lk8 rfl), (lk21 rfl), (lk22 rfl), (lk24 rfl), (lk25 rfl), (lk26 rfl), trivial⟩ ?_
 intro ρ4
 refine J.region <| JL.mv (t3 rfl) <| JL.rd (Rd.len Tryz.runUnderlying132 (t0 rfl)) <| JL.rd (Rd.eql (t0 rfl) Ev.c) <| JL.mv (t0 rfl) <| JL.caseD (t0 rfl) ?_ ?_
 intro hb5p hb5
 refine JL.rdG rfl (EvB (t0 rfl) hb5) rfl (Rd.move (t7 rfl)) <| JL.rdG rfl (EvB (t1 rfl) hb5) rfl (Rd.sIdx Tryz.runUnderlying132 Tryz.sizeOf76 (t0 rfl) Ev.c (Src.i (by repeat constructor)) (by first | (simp; done) | (simp; omega) | omega | (simp [*]; done) | (simp [*]; omega)) (by omega) (by omega)) ?_
 refine JL.rdG rfl (EvB (t2 rfl) hb5) rfl (Rd.sLd Tryz.isAgg76 (t0 rfl) (Src.i (by repeat constructor)) (hnv (by omega)) rfl) ?_
 refine JL.efG rfl (EvB (t3 rfl) hb5) rfl (Ef.callm (t0 rfl) (mth_ismall _) .nil (ismall0 y1 y2 (asK tt).length) (by repeat constructor) ?_)
 rintro - -
 simp only [nA]
 refine JL.rd (Rd.pickT (EvB (t4 rfl) hb5) (t0 rfl)) <| JL.mv (t0 rfl) <| JL.caseD (t0 rfl) ?_ ?_
 intro hb6p hb6
 refine JL.rdG rfl (EvB (t0 rfl) hb6) rfl (Rd.move (t15 rfl)) <| JL.rdG rfl (EvB (t1 rfl) hb6) rfl (Rd.len Tryz.runUnderlying89 (t0 rfl)) <| JL.rdG rfl (EvB (t2 rfl) hb6) rfl (Rd.gtr (t0 rfl) Ev.c) <| JL.rd (Rd.pickT (EvB (t3 rfl) hb6) (t0 rfl)) <| JL.n2 <| J.condT (EvB (t0 rfl) (decide_eq_true (by omega))) ?_
 refine J.seq ?_
 have hyl1 : ys.length = 1 := by omega
 have htt1 : (asK tt).length = 1 := by omega
 obtain ⟨hys1, hr2⟩ := hy1 hyl1
 subst hys1
 have hgtt : NdG (nd (h + 1) tt) := o3 tt (by rw [hr2]; exact List.mem_singleton.2 rfl)
 obtain ⟨htk, _, _⟩ := nd_kids hgtt
 have hsm : smallL r.2.2 = true := by rw [hr2]; show decide ((asK tt).length = 1) = true; rw [htt1]; rfl
 have hmj0 : (replT f key mk ((h + 1) + 1) x b st) = joinT f (asK x) i r := by rw [hi]; exact repl_join hdn hc0 hr he0 hsm h2x
 obtain ⟨p1, hp1⟩ := List.length_eq_one_iff.1 htt1
 have hp10 : (asK tt)[0]? = some p1 := by rw [hp1]; rfl
 have hnv2 : (nvals [(⟨y1, y2, nd (h + 1) tt⟩ : NdV)])[(0 : Int).toNat]? = some [.iface 89 (.slice y1 (asK tt).length y2)] := by show some [Value.iface 89 (.slice y1 ((asK tt).map kdp).length y2)] = _; rw [List.length_map]
 refine J.region <| JL.mv (t18 rfl) <| JL.rd (Rd.sub (t0 rfl) Ev.c (w64 (by omega) (by omega))) ?_
 refine JL.as (t0 rfl) <| JL.n5 <| JL.mv (t21 rfl) <| JL.rd (Rd.eql (t0 rfl) Ev.c) <| JL.n2 <| J.condD (t0 rfl) ?_ ?_
 intro hc7
 have hi0 : i = 0 := by omega
 obtain ⟨od, hod⟩ : ∃ o, (asK x)[1]? = some o := ⟨_, List.getElem?_eq_getElem (by omega)⟩
 have hxo : (kcs (asK x))[(1 : Int).toNat]? = some [str od.1, .int .i64 (od.2.1 : Int)] := kcs_get hod
 have hko : (asK x)[if i = 0 then 1 else i - 1]? = some od := by rw [if_pos hi0]; exact hod
 have hHo := o1.hd (hsub od (List.mem_of_getElem? hod))
 obtain ⟨hob, _, hon, hov⟩ := hHo.top
 have hgo := hon.g
 have hgn := o2
 obtain ⟨hok3, hol, hoe⟩ := nd_kids hgo
 obtain ⟨hol2, _⟩ := inner_facts hon
 obtain ⟨q0, hq0d⟩ : ∃ q0, (asK od.2.2)[0]? = some q0 := ⟨_, List.getElem?_eq_getElem (by omega)⟩
 have hmj : (replT f key mk ((h + 1) + 1) x b st) = _ := hmj0.trans (join_eq hko hr2)
 refine J.region <| JL.as Ev.c <| JL.ns <| J.live (K := [(18, _), (17, _), (16, _), (11, _), (15, _), (14, _), (12, _), (9, _), (8, _), (0, _)]) ⟨lk0, (lk20 rfl), (lk21 rfl), (lk22 rfl), (lk23 rfl), (lk24 rfl), (lk25 rfl), (lk26 rfl), (lk27 rfl), (lk28 rfl), trivial⟩ ?_
 intro ρ8
 refine J.region <| JL.mv (t9 rfl) <| JL.mv (t7 rfl) <| JL.mv (t2 rfl) <| JL.rd (Rd.sIdx Tryz.runUnderlying89 Tryz.sizeOf91 (t1 rfl) (t0 rfl) (Src.i (by repeat constructor)) (by first | (simp; done) | (simp; omega) | omega | (simp [*]; done) | (simp [*]; omega)) (by omega) (by omega)) ?_
 refine JL.rd (Rd.sFld0 fld_91_1 (t0 rfl) (Src.i (by repeat constructor)) (List.getElem?_eq_some_iff.1 hxo).1) ?_
 refine JL.rd (Rd.sLd Tryz.isAgg3 (t0 rfl) (Src.i (by repeat constructor)) hxo rfl) ?_
 refine JL.ef (Ef.call (.cons (t5 rfl) (.cons (t0 rfl) .nil)) (copen_any c t d m root r.1.tk r.1.gn r.1.D od.2.1 (nd (h + 1) od.2.2) (by omega) hob hon hov) (by repeat constructor) ?_)
 rintro ⟨za, zc, zn⟩ hz
 simp only [cA, nA]
 refine JL.mv (t0 rfl) <| JL.e (t0 rfl) <| JL.e (t1 rfl) <| JL.as (t1 rfl) <| JL.as (t1 rfl) <| JL.n5 <| JL.mv (t0 rfl) <| JL.rd (Rd.neq (t0 rfl) Ev.c) <| JL.n2 <| J.condD (t0 rfl) ?_ ?_
 intro hc9
 have hdr : r.1.D.down = true := by
   by_cases hd : r.1.D.down = true
   · exact hd
   · exfalso; exact hc9 (by unfold rdC; rw [if_neg hd])
 have hfin : (replT f key mk ((h + 1) + 1) x b st) = (goneT r.1 od.2.1, 29, []) := by rw [hmj, if_pos hdr]
 have hrc : rdC r.1.D = 29 := if_pos hdr
 exact J.sr <| JL.mv (t2 rfl) <| JL.as Ev.c <| JL.as (t1 rfl) <| JL.nr <| At.nextR <| At.nextR <| At.ret ((none, 0, [])) (by rw [hfin]; rfl) (ResV.two rfl (t1 rfl) (t0 rfl)) (by first | (rw [hfin]; done) | (rw [hfin]; rfl) | (rw [hfin, hrc]; rfl)) (fun _ s => by rw [hfin]; exact row_nil 76 1 (nodesM_nil (Stars.sel (by repeat constructor) s)))
 intro hc9
 have hdr : r.1.D.down = false := by
   by_cases hd : r.1.D.down = true
   · exfalso; exact hc9 (by unfold rdC; rw [if_pos hd]; decide)
   · simpa using hd
 obtain rfl : zn = nd (h + 1) od.2.2 := hz hdr
 rw [if_neg (by rw [hdr]; decide), show NdV.val ⟨za, zc, nd (h + 1) od.2.2⟩ = .iface 89 (.slice za ((asK od.2.2).map kdp).length zc) from rfl, List.length_map]
 refine J.k4 <| JL.mv (t3 rfl) <| JL.rd (Rd.asOk (t0 rfl) Tryz.runUnderlying89 (fun _ h => by cases h)) <| JL.mv (t0 rfl) <| JL.e (t0 rfl) <| JL.e (t1 rfl) <| JL.as (t1 rfl) <| JL.as (t1 rfl) <| JL.ns <| J.seq <| J.live (K := [(22, _), (21, _), (18, _), (17, _), (16, _), (11, _), (15, _), (14, _), (12, _), (9, _), (8, _), (0, _)]) ⟨lk0, (lk1 rfl), (lk21 rfl), (lk22 rfl), (lk23 rfl), (lk24 rfl), (lk25 rfl), (lk26 rfl), (lk27 rfl), (lk28 rfl), (lk29 rfl), (lk30 rfl), trivial⟩ ?_
 intro ρ10
 refine J.region <| JL.mv (t0 rfl) <| JL.rd (Rd.not (EvB (t0 rfl) rfl)) <| JL.n2 <| J.condF (EvB (t0 rfl) rfl) <| J.k4 <| JL.mv (t3 rfl) <| JL.mv (t9 rfl) <| JL.rd (Rd.sIdx Tryz.runUnderlying132 Tryz.sizeOf76 (t0 rfl) Ev.c (Src.i (by repeat constructor)) (by first | (simp; done) | (simp; omega) | omega | (simp [*]; done) | (simp [*]; omega)) (by omega) (by omega)) ?_
 refine JL.rd (Rd.sLd Tryz.isAgg76 (t0 rfl) (Src.i (by repeat constructor)) hnv2 rfl) ?_
 refine JL.rd (Rd.asT (t0 rfl) Tryz.runUnderlying89 (fun _ h => by cases h)) <| JL.ef (Ef.litR (us := [[.slice za (asK od.2.2).length zc], [.slice y1 (asK tt).length y2]]) (.cons (t4 rfl) (.cons (t0 rfl) .nil)) (lit2i2 _ _ _ _ _ _) (fun x hx => by simp at hx; rcases hx with rfl | rfl <;> rfl) rfl rfl (by decide) ?_)
 intro br
 refine JL.ef (Ef.call (.cons (t0 rfl) .nil) (icatn br (⟨za, zc, nd (h + 1) od.2.2⟩ : NdV) (⟨y1, y2, nd (h + 1) tt⟩ : NdV) (asK od.2.2).length (asK tt).length (kcs_length _) (kcs_length _) (by show (kcs (asK od.2.2)).length + (kcs (asK tt)).length ≤ _; rw [kcs_length, kcs_length]; omega)) (by repeat constructor) ?_)
 rintro ⟨ga, gc⟩ -
 rw [show (⟨za, zc, nd (h + 1) od.2.2⟩ : NdV).cells ++ (⟨y1, y2, nd (h + 1) tt⟩ : NdV).cells = kcs (asK od.2.2 ++ asK tt) from (kcs_app _ _).symm, kcs_length]
 simp only [cA, nA]
 refine JL.as (t0 rfl) <| JL.n5 <| JL.mv (t17 rfl) <| JL.rd (Rd.eql (t0 rfl) Ev.c) <| JL.n2 <| J.condDT (t0 rfl) (by omega) ?_
 refine J.sr <| JL.mv (t18 rfl) <| JL.rd (Rd.sIdx Tryz.runUnderlying132 Tryz.sizeOf76 (t0 rfl) Ev.c (Src.i (by repeat constructor)) (by first | (simp; done) | (simp; omega) | omega | (simp [*]; done) | (simp [*]; omega)) (by omega) (by omega)) ?_
 refine JL.rd (Rd.sLd Tryz.isAgg76 (t0 rfl) (Src.i (by repeat constructor)) hnv2 rfl) ?_
 refine JL.rd (Rd.asT (t0 rfl) Tryz.runUnderlying89 (fun _ h => by cases h)) <| JL.mv (t17 rfl) <| JL.ef (Ef.litR (us := [[.slice y1 (asK tt).length y2], [.slice za (asK od.2.2).length zc]]) (.cons (t1 rfl) (.cons (t0 rfl) .nil)) (lit2i2 _ _ _ _ _ _) (fun x hx => by simp at hx; rcases hx with rfl | rfl <;> rfl) rfl rfl (by decide) ?_)
 intro br
 refine JL.ef (Ef.call (.cons (t0 rfl) .nil) (icatn br (⟨y1, y2, nd (h + 1) tt⟩ : NdV) (⟨za, zc, nd (h + 1) od.2.2⟩ : NdV) (asK tt).length (asK od.2.2).length (kcs_length _) (kcs_length _) (by show (kcs (asK tt)).length + (kcs (asK od.2.2)).length ≤ _; rw [kcs_length, kcs_length]; omega)) (by repeat constructor) ?_)
 rintro ⟨ga, gc⟩ -
 rw [show (⟨y1, y2, nd (h + 1) tt⟩ : NdV).cells ++ (⟨za, zc, nd (h + 1) od.2.2⟩ : NdV).cells = kcs (asK tt ++ asK od.2.2) from (kcs_app _ _).symm, kcs_length]
 simp only [cA, nA]
 refine JL.as (t0 rfl) <| JL.n2 <| J.live (K := [(23, _), (18, _), (17, _), (16, _), (11, _), (15, _), (14, _), (12, _), (9, _), (8, _), (0, _)]) ⟨lk0, (lk22 rfl), (lk23 rfl), (lk24 rfl), (lk25 rfl), (lk26 rfl), (lk27 rfl), (lk28 rfl), (lk29 rfl), (lk30 rfl), (lk31 rfl), trivial⟩ ?_
 intro ρ11
 have hlb : (asK tt ++ asK od.2.2).length = 1 + (asK od.2.2).length := by rw [List.length_append, htt1]
 have hn1 : (kcs (asK tt ++ asK od.2.2))[(1 : Int).toNat]? = some [str q0.1, .int .i64 (q0.2.1 : Int)] := kcs_get (by rw [hp1]; exact hq0d)
 refine J.region <| JL.mv (t0 rfl) <| JL.mv (t8 rfl) <| JL.rd (Rd.sIdx Tryz.runUnderlying89 Tryz.sizeOf91 (t0 rfl) Ev.c (Src.i (by repeat constructor)) (by first | (simp; done) | (simp; omega) | omega | (simp [*]; done) | (simp [*]; omega)) (by omega) (by omega)) ?_
 refine JL.rd (Rd.sFld0 fld_91_0 (t0 rfl) (Src.i (by repeat constructor)) (List.getElem?_eq_some_iff.1 hxo).1) ?_
 refine JL.rd (Rd.sLd Tryz.isAgg9 (t0 rfl) (Src.i (by repeat constructor)) hxo rfl) ?_
 refine JL.rd (Rd.sIdx Tryz.runUnderlying89 Tryz.sizeOf91 (t4 rfl) Ev.c (Src.i (by repeat constructor)) (by first | (simp; done) | (simp; omega) | omega | (simp [*]; done) | (simp [*]; omega)) (by omega) (by omega)) ?_
 refine JL.rd (Rd.sFld0 fld_91_0 (t0 rfl) (Src.i (by repeat constructor)) (List.getElem?_eq_some_iff.1 hn1).1) ?_
 refine JL.ef0 (Ef.sSt Tryz.sizeOf9 (t0 rfl) (t2 rfl) rfl (by repeat constructor) hn1 (by decide) rfl ?_)
 rw [show (kcs (asK tt ++ asK od.2.2)).set (1 : Int).toNat ([str q0.1, .int .i64 (q0.2.1 : Int)].set 0 (str od.1)) = kcs (asK tt ++ setK0 od.1 (asK od.2.2)) by rw [kcs_app, kcs_app, ← kcs_set0 od.1 hq0d, ← set_app0, kcs_length, htt1]; rfl]
 refine JL.n2 ?_
 obtain ⟨BB, hBB⟩ : ∃ BB, BB = asK tt ++ setK0 od.1 (asK od.2.2) := ⟨_, rfl⟩
 rw [← hBB, show (asK tt ++ asK od.2.2).length = BB.length by rw [hBB]; simp]
 have hBok : ∀ p ∈ BB, kdOk (kdp p) := by rw [hBB]; exact fun p hp => (List.mem_append.1 hp).elim (htk p) (setK0_ok (kx1 od (List.mem_of_getElem? hod)).1 hok3 p)
 have hBok2 : ∀ p ∈ BB.map kdp, kdOk p := fun p hp => by obtain ⟨z, hz1, rfl⟩ := List.mem_map.1 hp; exact hBok z hz1
 have hBn : BB.length ≤ 252 := by rw [hBB]; simp; omega
 have hBs := sizeI_le hBok2
 rw [List.length_map] at hBs
 refine J.know (fun h s => row_capS (Stars.sel (pre := [row ga gc 91 2 (kcs BB)]) (by repeat constructor) s)) ?_
 intro hBc
 rw [kcs_length] at hBc
 refine J.demote (a := ga) (cap := gc) (xs := kcs BB) (by repeat constructor) ?_
 refine J.region <| JL.mv (t7 rfl) <| JL.ef (Ef.call (.cons (t0 rfl) .nil) (ipack_all BB.length ga BB.length gc (BB.map kdp) (List.length_map _) (Nat.le_of_eq (List.length_map _)) hBok2 hBc (by omega) (by omega)) (by repeat constructor) ?_)
 rintro ⟨la, lc, ys⟩ hys
 simp only [cA, nA]
 refine JL.mv (t15 rfl) <| JL.mv (t11 rfl) <| JL.rd (Rd.min2 (t1 rfl) (t0 rfl)) ?_
 first | rw [show min (i : Int) 1 = ((0 : Nat) : Int) by omega] | rw [show min (i : Int) ((i : Int) - 1) = ((i - 1 : Nat) : Int) by omega]
 refine JL.mv (t18 rfl) <| JL.mv (t14 rfl) <| JL.rd (Rd.max2 (t1 rfl) (t0 rfl)) <| JL.rd (Rd.add (t0 rfl) Ev.c (w64 (by omega) (by omega))) ?_
 first | rw [show max (i : Int) 1 + 1 = ((2 : Nat) : Int) by omega] | rw [show max (i : Int) ((i : Int) - 1) + 1 = ((i + 1 : Nat) : Int) by omega]
 refine JL.as (t7 rfl) <| JL.as (t5 rfl) <| JL.as (t2 rfl) <| JL.ns <| J.live (K := [(17, _), (16, _), (15, _), (11, _), (12, _), (9, _), (8, _), (0, _)]) ⟨lk0, (lk1 rfl), (lk2 rfl), (lk23 rfl), (lk26 rfl), (lk27 rfl), (lk28 rfl), (lk29 rfl), trivial⟩ ?_
 intro ρ12
 have hsx : StOk (goneT r.1 od.2.1) := o1.ok (e0.ok hok)
 obtain ⟨hLL, hLn⟩ := join2_ok (k := keyAt (asK x) 1) hgtt hgo (keyAt_len kx1 _)
 have hys3 : ys.map (·.n) = (join2 (h + 1) tt od.2.2 (keyAt (asK x) 1)).map (nd (h + 1)) := by rw [show (join2 (h + 1) tt od.2.2 (keyAt (asK x) 1)) = packK BB by rw [hBB, keyAt_eq hod]; rfl, packK_map]; simpa using hys
 have hmir : (replT f key mk ((h + 1) + 1) x b st) = endT f (asK x) (join2 (h + 1) tt od.2.2 (keyAt (asK x) 1)) 0 2 (goneT r.1 od.2.1) := by rw [hmj, if_neg (by rw [hdr]; decide)]; exact if_pos hi0
 obtain ⟨k1, k2, k3, k4, k5⟩ := kidsT_ok hf (join2 (h + 1) tt od.2.2 (keyAt (asK x) 1)) (goneT r.1 od.2.1) hLL hsx
 have hyl3 : (join2 (h + 1) tt od.2.2 (keyAt (asK x) 1)).length = ys.length := by have := congrArg List.length hys3; simpa using this.symm
 obtain ⟨xf, hxf0⟩ : ∃ xf, (asK x)[(0 : Nat)]? = some xf := ⟨_, List.getElem?_eq_getElem (by omega)⟩
 have hka := keyAt_eq hxf0
 have hxf : (kcs (asK x))[(((0 : Nat) : Int)).toNat]? = some [str xf.1, .int .i64 (xf.2.1 : Int)] := kcs_get hxf0
 refine J.region <| JL.mv (t7 rfl) <| JL.mv (t3 rfl) <| JL.ef (Ef.call (.cons (t1 rfl) (.cons (t0 rfl) .nil)) (kids_any c t d m f root (goneT r.1 od.2.1) (h + 1) (join2 (h + 1) tt od.2.2 (keyAt (asK x) 1)) ys la ys.length lc hys3 hyl3 (by omega) hLL hsx (row la lc 76 1 (nvals ys)) (fun t => SIn.row t)) (by repeat constructor) ?_)
 rintro ⟨ka, kc⟩ -
 obtain ⟨q, hq⟩ : ∃ q, q = kidsT f (join2 (h + 1) tt od.2.2 (keyAt (asK x) 1)) (goneT r.1 od.2.1) := ⟨_, rfl⟩
 rw [← hq] at k1 k2 k3 k4 k5
 rw [← hq]
 simp only [cA, nA]
 refine JL.mv (t0 rfl) <| JL.e (t0 rfl) <| JL.e (t1 rfl) <| JL.as (t1 rfl) <| JL.as (t1 rfl) <| JL.n5 <| JL.mv (t0 rfl) <| JL.rd (Rd.neq (t0 rfl) Ev.c) <| JL.n2 <| J.condD (t0 rfl) ?_ ?_
 intro hc13
 have hfin : (replT f key mk ((h + 1) + 1) x b st) = (q.1, q.2.1, []) := by rw [hmir]; unfold endT; rw [← hq, if_pos hc13]
 exact J.sr <| JL.mv (t2 rfl) <| JL.as Ev.c <| JL.as (t1 rfl) <| JL.nr <| At.nextR <| At.ret ((none, 0, [])) (by rw [hfin]; rfl) (ResV.two rfl (t1 rfl) (t0 rfl)) (by first | (rw [hfin]; done) | (rw [hfin]; rfl) | (rw [hfin, hrc]; rfl)) (fun _ s => by rw [hfin]; exact row_nil 76 1 (nodesM_nil (Stars.sel (by repeat constructor) s)))
 intro hc13
 have hq0 : q.2.1 = 0 := by simpa using hc13
 have hfin : (replT f key mk ((h + 1) + 1) x b st) = (q.1, 0, packK (midK (asK x) q.2.2 0 2)) := by rw [hmir]; unfold endT; rw [← hq, if_neg (by rw [hq0]; decide)]; rfl
 have hk5 := k5 hq0
 refine J.skip <| At.next <| J.seq <| J.sr <| JL.mv (t3 rfl) <| JL.rd (Rd.len Tryz.runUnderlying89 (t0 rfl)) <| JL.rd (Rd.gtr (t0 rfl) Ev.c) <| JL.n2 <| J.condD (t0 rfl) ?_ ?_
 intro hc14
 obtain ⟨k0, hk0⟩ : ∃ k0, q.2.2[0]? = some k0 := ⟨_, List.getElem?_eq_getElem (by omega)⟩
 have hkf : (kcs q.2.2)[(0 : Int).toNat]? = some [str k0.1, .int .i64 (k0.2.1 : Int)] := kcs_get hk0
 refine J.region <| JL.mv (t6 rfl) <| JL.mv (t18 rfl) <| JL.mv (t16 rfl) <| JL.rd (Rd.sIdx Tryz.runUnderlying89 Tryz.sizeOf91 (t1 rfl) (t0 rfl) (Src.i (by repeat constructor)) (by first | (simp; done) | (simp; omega) | omega | (simp [*]; done) | (simp [*]; omega)) (by omega) (by omega)) ?_
 refine JL.rd (Rd.sFld0 fld_91_0 (t0 rfl) (Src.i (by repeat constructor)) (List.getElem?_eq_some_iff.1 hxf).1) ?_
 refine JL.rd (Rd.sLd Tryz.isAgg9 (t0 rfl) (Src.i (by repeat constructor)) hxf rfl) ?_
 refine JL.rd (Rd.sIdx Tryz.runUnderlying89 Tryz.sizeOf91 (t5 rfl) Ev.c (Src.i (by repeat constructor)) (by first | (simp; done) | (simp; omega) | omega | (simp [*]; done) | (simp [*]; omega)) (by omega) (by omega)) ?_
 refine JL.rd (Rd.sFld0 fld_91_0 (t0 rfl) (Src.i (by repeat constructor)) (List.getElem?_eq_some_iff.1 hkf).1) ?_
 refine JL.ef0 (Ef.sSt Tryz.sizeOf9 (t0 rfl) (t2 rfl) rfl (by repeat constructor) hkf (by decide) rfl ?_)
 rw [show (kcs q.2.2).set (0 : Int).toNat ([str k0.1, .int .i64 (k0.2.1 : Int)].set 0 (str xf.1)) = kcs (setK0 xf.1 q.2.2) from kcs_set0 xf.1 hk0]
 refine JL.ns <| J.live (K := [(24, _), (17, _), (16, _), (12, _), (9, _), (8, _)]) ⟨(lk14 rfl), (lk21 rfl), (lk22 rfl), (lk25 rfl), (lk26 rfl), (lk27 rfl), trivial⟩ ?_
 intro ρ15
 refine J.node (a := ka) (cap := kc) (xs := kcs (setK0 xf.1 q.2.2)) (.inner ((setK0 xf.1 q.2.2).map kdp)) rfl (by repeat constructor) ?_
 intro hkc
 have hkc3 : q.2.2.length ≤ kc := by simpa using hkc
 obtain ⟨MM, hMM⟩ : ∃ MM, MM = midK (asK x) q.2.2 0 2 := ⟨_, rfl⟩
 obtain ⟨mm1, mm2⟩ := midK_ok (fr := 0) (to := 2) kx1 k3 (by omega)
 rw [← hMM] at mm1 mm2 hfin
 have hmid : (⟨xa, xc, nd ((h + 1) + 1) x⟩ : NdV).cells.take 0 ++ (⟨ka, kc, .inner ((setK0 xf.1 q.2.2).map kdp)⟩ : NdV).cells ++ (⟨xa, xc, nd ((h + 1) + 1) x⟩ : NdV).cells.drop 2 = kcs MM := by rw [hMM]; unfold midK; rw [kcs_app, kcs_app, kcs_take, kcs_drop, hka]; rfl
 have hmm3 : ∀ p ∈ MM.map kdp, kdOk p := fun p hp => by obtain ⟨z, hz1, rfl⟩ := List.mem_map.1 hp; exact mm1 z hz1
 have hmsz := sizeI_le hmm3
 rw [List.length_map] at hmsz
 have hxcl : (⟨xa, xc, nd ((h + 1) + 1) x⟩ : NdV).cells.length = (asK x).length := kcs_length _
 refine J.draw [lz, lz, lz, lz, lz, lz, lz, ⟨true, 0, 0⟩, ⟨true, 1, 1⟩, ⟨true, 2, 2⟩, ⟨false, 3, 3⟩, ⟨false, 3, 3⟩] [7, 8, 9] mixed rfl <| DRun.at [] [0, 1, 2, 3, 4, 5, 6] rfl rfl ?_ ?_
 exact .nil
 refine DNew.rd rfl (Rd.move (t3 rfl)) <| DNew.rd rfl (Rd.move (t3 rfl)) <| DNew.rd rfl (Rd.slToN Tryz.runUnderlying89 Tryz.sizeOf91 (t1 rfl) (t0 rfl) (by omega)) ?_
 refine DNew.rd rfl (Rd.move (t3 rfl)) <| DNew.rd rfl (Rd.move (t7 rfl)) <| DNew.rd rfl (Rd.move (t6 rfl)) <| DNew.rd rfl (Rd.slFrom Tryz.runUnderlying89 Tryz.sizeOf91 (t1 rfl) (t0 rfl) (by omega)) ?_
 refine DNew.nil <| DRun.ef rfl (Ef.litR (us := [[.slice xa 0 xc], [.slice ka q.2.2.length kc], [.slice (subA xa 2 2 xc) ((asK x).length - 2) (xc - 2)]]) (.cons (t4 rfl) (.cons (t3 rfl) (.cons (t0 rfl) .nil))) (lit3i2 _ _ _ _ _ _ _ _ _) (fun x hx => by simp at hx; rcases hx with rfl | rfl | rfl <;> rfl) rfl rfl (by decide) ?_)
 intro br
 refine DRun.at [] [] rfl rfl ?_ ?_
 exact .nil
 refine DNew.nil <| DRun.ef rfl (Ef.call (.cons (t0 rfl) .nil) ((icat3 br (⟨xa, xc, nd ((h + 1) + 1) x⟩ : NdV) (⟨ka, kc, .inner ((setK0 xf.1 q.2.2).map kdp)⟩ : NdV) 0 2 (asK x).length q.2.2.length hxcl (by show (kcs (setK0 xf.1 q.2.2)).length = _; simp) (by rw [hxcl]; omega) (by rw [hxcl]; omega) (by rw [hxcl]; show (asK x).length * 2 + (kcs (setK0 xf.1 q.2.2)).length ≤ _; simp only [kcs_length, setK0_length]; omega)).demote) (by repeat constructor) ?_)
 rintro ⟨ga, gc⟩ hgc
 rw [hmid, kcs_length] at hgc
 rw [hmid, kcs_length]
 simp only [cA, nA]
 refine DRun.at [] [] rfl rfl ?_ ?_
 exact .nil
 refine DNew.nil <| DRun.ef rfl (Ef.call (.cons (t0 rfl) .nil) (ipack_all MM.length ga MM.length gc (MM.map kdp) (List.length_map _) (Nat.le_of_eq (List.length_map _)) hmm3 hgc (by omega) (by omega)) (by repeat constructor) ?_)
 rintro ⟨pa, pc, px⟩ hpx
 simp only [cA, nA]
 refine DRun.end [] [10, 11] rfl rfl ?_ ?_
 exact .nil
 exact DNew.rd rfl (Rd.assign (t0 rfl)) <| DNew.rd rfl (Rd.assign Ev.c) <| DNew.n2 <| J.ret <| At.ret ((pa, pc, px)) (by rw [hfin]; show px.map _ = _; rw [packK_map]; exact hpx) (ResV.two rfl (t1 rfl) (t0 rfl)) (by first | (rw [hfin]; done) | (rw [hfin]; rfl) | (rw [hfin, hrc]; rfl)) (fun _ s => by rw [hfin]; exact Stars.sel (by repeat constructor) s)
 intro hc14
 have hq22 : q.2.2 = [] := List.eq_nil_of_length_eq_zero (by omega)
 rw [show kcs q.2.2 = kcs (setK0 xf.1 q.2.2) by rw [hq22]; rfl]
 refine J.skip <| At.next <| J.seq <| J.node (a := ka) (cap := kc) (xs := kcs (setK0 xf.1 q.2.2)) (.inner ((setK0 xf.1 q.2.2).map kdp)) rfl (by repeat constructor) ?_
 intro hkc
 have hkc3 : q.2.2.length ≤ kc := by simpa using hkc
 obtain ⟨MM, hMM⟩ : ∃ MM, MM = midK (asK x) q.2.2 0 2 := ⟨_, rfl⟩
 obtain ⟨mm1, mm2⟩ := midK_ok (fr := 0) (to := 2) kx1 k3 (by omega)
 rw [← hMM] at mm1 mm2 hfin
 have hmid : (⟨xa, xc, nd ((h + 1) + 1) x⟩ : NdV).cells.take 0 ++ (⟨ka, kc, .inner ((setK0 xf.1 q.2.2).map kdp)⟩ : NdV).cells ++ (⟨xa, xc, nd ((h + 1) + 1) x⟩ : NdV).cells.drop 2 = kcs MM := by rw [hMM]; unfold midK; rw [kcs_app, kcs_app, kcs_take, kcs_drop, hka]; rfl
 have hmm3 : ∀ p ∈ MM.map kdp, kdOk p := fun p hp => by obtain ⟨z, hz1, rfl⟩ := List.mem_map.1 hp; exact mm1 z hz1
 have hmsz := sizeI_le hmm3
 rw [List.length_map] at hmsz
 have hxcl : (⟨xa, xc, nd ((h + 1) + 1) x⟩ : NdV).cells.length = (asK x).length := kcs_length _
 refine J.draw [lz, lz, lz, lz, lz, lz, lz, ⟨true, 0, 0⟩, ⟨true, 1, 1⟩, ⟨true, 2, 2⟩, ⟨false, 3, 3⟩, ⟨false, 3, 3⟩] [7, 8, 9] mixed rfl <| DRun.at [] [0, 1, 2, 3, 4, 5, 6] rfl rfl ?_ ?_
 exact .nil
 refine DNew.rd rfl (Rd.move (t17 rfl)) <| DNew.rd rfl (Rd.move (t15 rfl)) <| DNew.rd rfl (Rd.slToN Tryz.runUnderlying89 Tryz.sizeOf91 (t1 rfl) (t0 rfl) (by omega)) ?_
 refine DNew.rd rfl (Rd.move (t9 rfl)) <| DNew.rd rfl (Rd.move (t21 rfl)) <| DNew.rd rfl (Rd.move (t18 rfl)) <| DNew.rd rfl (Rd.slFrom Tryz.runUnderlying89 Tryz.sizeOf91 (t1 rfl) (t0 rfl) (by omega)) ?_
 refine DNew.nil <| DRun.ef rfl (Ef.litR (us := [[.slice xa 0 xc], [.slice ka q.2.2.length kc], [.slice (subA xa 2 2 xc) ((asK x).length - 2) (xc - 2)]]) (.cons (t4 rfl) (.cons (t3 rfl) (.cons (t0 rfl) .nil))) (lit3i2 _ _ _ _ _ _ _ _ _) (fun x hx => by simp at hx; rcases hx with rfl | rfl | rfl <;> rfl) rfl rfl (by decide) ?_)
 intro br
 refine DRun.at [] [] rfl rfl ?_ ?_
 exact .nil
 refine DNew.nil <| DRun.ef rfl (Ef.call (.cons (t0 rfl) .nil) ((icat3 br (⟨xa, xc, nd ((h + 1) + 1) x⟩ : NdV) (⟨ka, kc, .inner ((setK0 xf.1 q.2.2).map kdp)⟩ : NdV) 0 2 (asK x).length q.2.2.length hxcl (by show (kcs (setK0 xf.1 q.2.2)).length = _; simp) (by rw [hxcl]; omega) (by rw [hxcl]; omega) (by rw [hxcl]; show (asK x).length * 2 + (kcs (setK0 xf.1 q.2.2)).length ≤ _; simp only [kcs_length, setK0_length]; omega)).demote) (by repeat constructor) ?_)
 rintro ⟨ga, gc⟩ hgc
 rw [hmid, kcs_length] at hgc
 rw [hmid, kcs_length]
 simp only [cA, nA]
 refine DRun.at [] [] rfl rfl ?_ ?_
 exact .nil
 refine DNew.nil <| DRun.ef rfl (Ef.call (.cons (t0 rfl) .nil) (ipack_all MM.length ga MM.length gc (MM.map kdp) (List.length_map _) (Nat.le_of_eq (List.length_map _)) hmm3 hgc (by omega) (by omega)) (by repeat constructor) ?_)
 rintro ⟨pa, pc, px⟩ hpx
 simp only [cA, nA]
 refine DRun.end [] [10, 11] rfl rfl ?_ ?_
 exact .nil
 exact DNew.rd rfl (Rd.assign (t0 rfl)) <| DNew.rd rfl (Rd.assign Ev.c) <| DNew.n2 <| J.ret <| At.ret ((pa, pc, px)) (by rw [hfin]; show px.map _ = _; rw [packK_map]; exact hpx) (ResV.two rfl (t1 rfl) (t0 rfl)) (by first | (rw [hfin]; done) | (rw [hfin]; rfl) | (rw [hfin, hrc]; rfl)) (fun _ s => by rw [hfin]; exact Stars.sel (by repeat constructor) s)
 intro hc7
 have hi0 : ¬ i = 0 := by omega
 obtain ⟨od, hod⟩ : ∃ o, (asK x)[i - 1]? = some o := ⟨_, List.getElem?_eq_getElem (by omega)⟩
 have hxo : (kcs (asK x))[((i : Int) - 1).toNat]? = some [str od.1, .int .i64 (od.2.1 : Int)] := by rw [show ((i : Int) - 1).toNat = i - 1 by omega]; exact kcs_get hod
 have hko : (asK x)[if i = 0 then 1 else i - 1]? = some od := by rw [if_neg hi0]; exact hod
 have hHo := o1.hd (hsub od (List.mem_of_getElem? hod))
 obtain ⟨hob, _, hon, hov⟩ := hHo.top
 have hgo := hon.g
 have hgn := o2
 obtain ⟨hok3, hol, hoe⟩ := nd_kids hgo
 obtain ⟨hol2, _⟩ := inner_facts hon
 obtain ⟨q0, hq0d⟩ : ∃ q0, (asK od.2.2)[0]? = some q0 := ⟨_, List.getElem?_eq_getElem (by omega)⟩
 have hmj : (replT f key mk ((h + 1) + 1) x b st) = _ := hmj0.trans (join_eq hko hr2)
 refine J.k4 <| JL.mv (t27 rfl) <| JL.mv (t25 rfl) <| JL.mv (t4 rfl) <| JL.rd (Rd.sIdx Tryz.runUnderlying89 Tryz.sizeOf91 (t1 rfl) (t0 rfl) (Src.i (by repeat constructor)) (by first | (simp; done) | (simp; omega) | omega | (simp [*]; done) | (simp [*]; omega)) (by omega) (by omega)) ?_
 refine JL.rd (Rd.sFld0 fld_91_1 (t0 rfl) (Src.i (by repeat constructor)) (List.getElem?_eq_some_iff.1 hxo).1) ?_
 refine JL.rd (Rd.sLd Tryz.isAgg3 (t0 rfl) (Src.i (by repeat constructor)) hxo rfl) ?_
 refine JL.ef (Ef.call (.cons (t5 rfl) (.cons (t0 rfl) .nil)) (copen_any c t d m root r.1.tk r.1.gn r.1.D od.2.1 (nd (h + 1) od.2.2) (by omega) hob hon hov) (by repeat constructor) ?_)
 rintro ⟨za, zc, zn⟩ hz
 simp only [cA, nA]
 refine JL.mv (t0 rfl) <| JL.e (t0 rfl) <| JL.e (t1 rfl) <| JL.as (t1 rfl) <| JL.as (t1 rfl) <| JL.ns <| J.seq <| J.live (K := [(20, _), (19, _), (18, _), (17, _), (16, _), (11, _), (15, _), (14, _), (12, _), (9, _), (8, _), (0, _)]) ⟨lk0, (lk1 rfl), (lk14 rfl), (lk31 rfl), (lk32 rfl), (lk33 rfl), (lk34 rfl), (lk35 rfl), (lk36 rfl), (lk37 rfl), (lk38 rfl), (lk39 rfl), trivial⟩ ?_
 intro ρ16
 refine J.region <| JL.mv (t0 rfl) <| JL.rd (Rd.neq (t0 rfl) Ev.c) <| JL.n2 <| J.condD (t0 rfl) ?_ ?_
 intro hc17
 have hdr : r.1.D.down = true := by
   by_cases hd : r.1.D.down = true
   · exact hd
   · exfalso; exact hc17 (by unfold rdC; rw [if_neg hd])
 have hfin : (replT f key mk ((h + 1) + 1) x b st) = (goneT r.1 od.2.1, 29, []) := by rw [hmj, if_pos hdr]
 have hrc : rdC r.1.D = 29 := if_pos hdr
 exact J.sr <| JL.mv (t2 rfl) <| JL.as Ev.c <| JL.as (t1 rfl) <| JL.nr <| At.nextR <| At.nextR <| At.ret ((none, 0, [])) (by rw [hfin]; rfl) (ResV.two rfl (t1 rfl) (t0 rfl)) (by first | (rw [hfin]; done) | (rw [hfin]; rfl) | (rw [hfin, hrc]; rfl)) (fun _ s => by rw [hfin]; exact row_nil 76 1 (nodesM_nil (Stars.sel (by repeat constructor) s)))
 intro hc17
 have hdr : r.1.D.down = false := by
   by_cases hd : r.1.D.down = true
   · exfalso; exact hc17 (by unfold rdC; rw [if_pos hd]; decide)
   · simpa using hd
 obtain rfl : zn = nd (h + 1) od.2.2 := hz hdr
 rw [if_neg (by rw [hdr]; decide), show NdV.val ⟨za, zc, nd (h + 1) od.2.2⟩ = .iface 89 (.slice za ((asK od.2.2).map kdp).length zc) from rfl, List.length_map]
 refine J.k4 <| JL.mv (t3 rfl) <| JL.rd (Rd.asOk (t0 rfl) Tryz.runUnderlying89 (fun _ h => by cases h)) <| JL.mv (t0 rfl) <| JL.e (t0 rfl) <| JL.e (t1 rfl) <| JL.as (t1 rfl) <| JL.as (t1 rfl) <| JL.n5 <| JL.mv (t0 rfl) <| JL.rd (Rd.not (EvB (t0 rfl) rfl)) <| JL.n2 <| J.condF (EvB (t0 rfl) rfl) <| J.k4 <| JL.mv (t3 rfl) <| JL.mv (t18 rfl) <| JL.rd (Rd.sIdx Tryz.runUnderlying132 Tryz.sizeOf76 (t0 rfl) Ev.c (Src.i (by repeat constructor)) (by first | (simp; done) | (simp; omega) | omega | (simp [*]; done) | (simp [*]; omega)) (by omega) (by omega)) ?_
 refine JL.rd (Rd.sLd Tryz.isAgg76 (t0 rfl) (Src.i (by repeat constructor)) hnv2 rfl) ?_
 refine JL.rd (Rd.asT (t0 rfl) Tryz.runUnderlying89 (fun _ h => by cases h)) <| JL.ef (Ef.litR (us := [[.slice za (asK od.2.2).length zc], [.slice y1 (asK tt).length y2]]) (.cons (t4 rfl) (.cons (t0 rfl) .nil)) (lit2i2 _ _ _ _ _ _) (fun x hx => by simp at hx; rcases hx with rfl | rfl <;> rfl) rfl rfl (by decide) ?_)
 intro br
 refine JL.ef (Ef.call (.cons (t0 rfl) .nil) (icatn br (⟨za, zc, nd (h + 1) od.2.2⟩ : NdV) (⟨y1, y2, nd (h + 1) tt⟩ : NdV) (asK od.2.2).length (asK tt).length (kcs_length _) (kcs_length _) (by show (kcs (asK od.2.2)).length + (kcs (asK tt)).length ≤ _; rw [kcs_length, kcs_length]; omega)) (by repeat constructor) ?_)
 rintro ⟨ga, gc⟩ -
 rw [show (⟨za, zc, nd (h + 1) od.2.2⟩ : NdV).cells ++ (⟨y1, y2, nd (h + 1) tt⟩ : NdV).cells = kcs (asK od.2.2 ++ asK tt) from (kcs_app _ _).symm, kcs_length]
 simp only [cA, nA]
 refine JL.as (t0 rfl) <| JL.ns <| J.seq <| J.live (K := [(23, _), (21, _), (18, _), (17, _), (16, _), (11, _), (15, _), (14, _), (12, _), (9, _), (8, _), (0, _)]) ⟨lk0, (lk11 rfl), (lk21 rfl), (lk22 rfl), (lk23 rfl), (lk24 rfl), (lk25 rfl), (lk26 rfl), (lk27 rfl), (lk28 rfl), (lk29 rfl), (lk30 rfl), trivial⟩ ?_
 intro ρ18
 refine J.region <| JL.mv (t7 rfl) <| JL.rd (Rd.eql (t0 rfl) Ev.c) <| JL.n2 <| J.condDF (t0 rfl) (by omega) ?_
 have hlb : (asK od.2.2 ++ asK tt).length = (asK od.2.2).length + 1 := by rw [List.length_append, htt1]
 have hn2 : (kcs (asK od.2.2 ++ asK tt))[((asK od.2.2).length : Int).toNat]? = some [str p1.1, .int .i64 (p1.2.1 : Int)] := kcs_get (by rw [Int.toNat_natCast, List.getElem?_append_right (Nat.le_refl _), Nat.sub_self]; exact hp10)
 refine J.region <| JL.mv (t2 rfl) <| JL.mv (t4 rfl) <| JL.rd (Rd.len Tryz.runUnderlying89 (t0 rfl)) <| JL.mv (t13 rfl) <| JL.mv (t13 rfl) <| JL.rd (Rd.sIdx Tryz.runUnderlying89 Tryz.sizeOf91 (t1 rfl) (t0 rfl) (Src.i (by repeat constructor)) (by first | (simp; done) | (simp; omega) | omega | (simp [*]; done) | (simp [*]; omega)) (by omega) (by omega)) ?_
 refine JL.rd (Rd.sFld0 fld_91_0 (t0 rfl) (Src.i (by repeat constructor)) (List.getElem?_eq_some_iff.1 hxk).1) ?_
 refine JL.rd (Rd.sLd Tryz.isAgg9 (t0 rfl) (Src.i (by repeat constructor)) hxk rfl) ?_
 refine JL.rd (Rd.sIdx Tryz.runUnderlying89 Tryz.sizeOf91 (t7 rfl) (t5 rfl) (Src.i (by repeat constructor)) (by first | (simp; done) | (simp; omega) | omega | (simp [*]; done) | (simp [*]; omega)) (by omega) (by omega)) ?_
 refine JL.rd (Rd.sFld0 fld_91_0 (t0 rfl) (Src.i (by repeat constructor)) (List.getElem?_eq_some_iff.1 hn2).1) ?_
 refine JL.ef0 (Ef.sSt Tryz.sizeOf9 (t0 rfl) (t2 rfl) rfl (by repeat constructor) hn2 (by decide) rfl ?_)
 rw [show (kcs (asK od.2.2 ++ asK tt)).set ((asK od.2.2).length : Int).toNat ([str p1.1, .int .i64 (p1.2.1 : Int)].set 0 (str kd.1)) = kcs (asK od.2.2 ++ setK0 kd.1 (asK tt)) by rw [kcs_app, kcs_app, ← kcs_set0 kd.1 hp10, ← set_app0, kcs_length]; rfl]
 refine JL.n2 ?_
 obtain ⟨BB, hBB⟩ : ∃ BB, BB = asK od.2.2 ++ setK0 kd.1 (asK tt) := ⟨_, rfl⟩
 rw [← hBB, show (asK od.2.2 ++ asK tt).length = BB.length by rw [hBB]; simp]
 have hBok : ∀ p ∈ BB, kdOk (kdp p) := by rw [hBB]; exact fun p hp => (List.mem_append.1 hp).elim (hok3 p) (setK0_ok (kx1 kd (List.mem_of_getElem? hc)).1 htk p)
 have hBok2 : ∀ p ∈ BB.map kdp, kdOk p := fun p hp => by obtain ⟨z, hz1, rfl⟩ := List.mem_map.1 hp; exact hBok z hz1
 have hBn : BB.length ≤ 252 := by rw [hBB]; simp; omega
 have hBs := sizeI_le hBok2
 rw [List.length_map] at hBs
 refine J.know (fun h s => row_capS (Stars.sel (pre := [row ga gc 91 2 (kcs BB)]) (by repeat constructor) s)) ?_
 intro hBc
 rw [kcs_length] at hBc
 refine J.demote (a := ga) (cap := gc) (xs := kcs BB) (by repeat constructor) ?_
 refine J.region <| JL.mv (t12 rfl) <| JL.ef (Ef.call (.cons (t0 rfl) .nil) (ipack_all BB.length ga BB.length gc (BB.map kdp) (List.length_map _) (Nat.le_of_eq (List.length_map _)) hBok2 hBc (by omega) (by omega)) (by repeat constructor) ?_)
 rintro ⟨la, lc, ys⟩ hys
 simp only [cA, nA]
 refine JL.mv (t21 rfl) <| JL.mv (t17 rfl) <| JL.rd (Rd.min2 (t1 rfl) (t0 rfl)) ?_
 first | rw [show min (i : Int) 1 = ((0 : Nat) : Int) by omega] | rw [show min (i : Int) ((i : Int) - 1) = ((i - 1 : Nat) : Int) by omega]
 refine JL.mv (t24 rfl) <| JL.mv (t20 rfl) <| JL.rd (Rd.max2 (t1 rfl) (t0 rfl)) <| JL.rd (Rd.add (t0 rfl) Ev.c (w64 (by omega) (by omega))) ?_
 first | rw [show max (i : Int) 1 + 1 = ((2 : Nat) : Int) by omega] | rw [show max (i : Int) ((i : Int) - 1) + 1 = ((i + 1 : Nat) : Int) by omega]
 refine JL.as (t7 rfl) <| JL.as (t5 rfl) <| JL.as (t2 rfl) <| JL.ns <| J.live (K := [(17, _), (16, _), (15, _), (11, _), (12, _), (9, _), (8, _), (0, _)]) ⟨lk0, (lk1 rfl), (lk2 rfl), (lk29 rfl), (lk32 rfl), (lk33 rfl), (lk34 rfl), (lk35 rfl), trivial⟩ ?_
 intro ρ19
 have hsx : StOk (goneT r.1 od.2.1) := o1.ok (e0.ok hok)
 obtain ⟨hLL, hLn⟩ := join2_ok (k := keyAt (asK x) i) hgo hgtt (keyAt_len kx1 _)
 have hys3 : ys.map (·.n) = (join2 (h + 1) od.2.2 tt (keyAt (asK x) i)).map (nd (h + 1)) := by rw [show (join2 (h + 1) od.2.2 tt (keyAt (asK x) i)) = packK BB by rw [hBB, keyAt_eq hc]; rfl, packK_map]; simpa using hys
 have hmir : (replT f key mk ((h + 1) + 1) x b st) = endT f (asK x) (join2 (h + 1) od.2.2 tt (keyAt (asK x) i)) (i - 1) (i + 1) (goneT r.1 od.2.1) := by rw [hmj, if_neg (by rw [hdr]; decide)]; exact if_neg hi0
 obtain ⟨k1, k2, k3, k4, k5⟩ := kidsT_ok hf (join2 (h + 1) od.2.2 tt (keyAt (asK x) i)) (goneT r.1 od.2.1) hLL hsx
 have hyl3 : (join2 (h + 1) od.2.2 tt (keyAt (asK x) i)).length = ys.length := by have := congrArg List.length hys3; simpa using this.symm
 obtain ⟨xf, hxf0⟩ : ∃ xf, (asK x)[((i - 1) : Nat)]? = some xf := ⟨_, List.getElem?_eq_getElem (by omega)⟩
 have hka := keyAt_eq hxf0
 have hxf : (kcs (asK x))[(((i - 1 : Nat) : Int)).toNat]? = some [str xf.1, .int .i64 (xf.2.1 : Int)] := kcs_get hxf0
 refine J.region <| JL.mv (t7 rfl) <| JL.mv (t3 rfl) <| JL.ef (Ef.call (.cons (t1 rfl) (.cons (t0 rfl) .nil)) (kids_any c t d m f root (goneT r.1 od.2.1) (h + 1) (join2 (h + 1) od.2.2 tt (keyAt (asK x) i)) ys la ys.length lc hys3 hyl3 (by omega) hLL hsx (row la lc 76 1 (nvals ys)) (fun t => SIn.row t)) (by repeat constructor) ?_)
 rintro ⟨ka, kc⟩ -
 obtain ⟨q, hq⟩ : ∃ q, q = kidsT f (join2 (h + 1) od.2.2 tt (keyAt (asK x) i)) (goneT r.1 od.2.1) := ⟨_, rfl⟩
 rw [← hq] at k1 k2 k3 k4 k5
 rw [← hq]
 simp only [cA, nA]
 refine JL.mv (t0 rfl) <| JL.e (t0 rfl) <| JL.e (t1 rfl) <| JL.as (t1 rfl) <| JL.as (t1 rfl) <| JL.n5 <| JL.mv (t0 rfl) <| JL.rd (Rd.neq (t0 rfl) Ev.c) <| JL.n2 <| J.condD (t0 rfl) ?_ ?_
 intro hc20
 have hfin : (replT f key mk ((h + 1) + 1) x b st) = (q.1, q.2.1, []) := by rw [hmir]; unfold endT; rw [← hq, if_pos hc20]
 exact J.sr <| JL.mv (t2 rfl) <| JL.as Ev.c <| JL.as (t1 rfl) <| JL.nr <| At.nextR <| At.ret ((none, 0, [])) (by rw [hfin]; rfl) (ResV.two rfl (t1 rfl) (t0 rfl)) (by first | (rw [hfin]; done) | (rw [hfin]; rfl) | (rw [hfin, hrc]; rfl)) (fun _ s => by rw [hfin]; exact row_nil 76 1 (nodesM_nil (Stars.sel (by repeat constructor) s)))
 intro hc20
 have hq0 : q.2.1 = 0 := by simpa using hc20
 have hfin : (replT f key mk ((h + 1) + 1) x b st) = (q.1, 0, packK (midK (asK x) q.2.2 (i - 1) (i + 1))) := by rw [hmir]; unfold endT; rw [← hq, if_neg (by rw [hq0]; decide)]; rfl
 have hk5 := k5 hq0
 refine J.skip <| At.next <| J.seq <| J.sr <| JL.mv (t3 rfl) <| JL.rd (Rd.len Tryz.runUnderlying89 (t0 rfl)) <| JL.rd (Rd.gtr (t0 rfl) Ev.c) <| JL.n2 <| J.condD (t0 rfl) ?_ ?_
 intro hc21
 obtain ⟨k0, hk0⟩ : ∃ k0, q.2.2[0]? = some k0 := ⟨_, List.getElem?_eq_getElem (by omega)⟩
 have hkf : (kcs q.2.2)[(0 : Int).toNat]? = some [str k0.1, .int .i64 (k0.2.1 : Int)] := kcs_get hk0
 refine J.region <| JL.mv (t6 rfl) <| JL.mv (t18 rfl) <| JL.mv (t16 rfl) <| JL.rd (Rd.sIdx Tryz.runUnderlying89 Tryz.sizeOf91 (t1 rfl) (t0 rfl) (Src.i (by repeat constructor)) (by first | (simp; done) | (simp; omega) | omega | (simp [*]; done) | (simp [*]; omega)) (by omega) (by omega)) ?_
 refine JL.rd (Rd.sFld0 fld_91_0 (t0 rfl) (Src.i (by repeat constructor)) (List.getElem?_eq_some_iff.1 hxf).1) ?_
 refine JL.rd (Rd.sLd Tryz.isAgg9 (t0 rfl) (Src.i (by repeat constructor)) hxf rfl) ?_
 refine JL.rd (Rd.sIdx Tryz.runUnderlying89 Tryz.sizeOf91 (t5 rfl) Ev.c (Src.i (by repeat constructor)) (by first | (simp; done) | (simp; omega) | omega | (simp [*]; done) | (simp [*]; omega)) (by omega) (by omega)) ?_
 refine JL.rd (Rd.sFld0 fld_91_0 (t0 rfl) (Src.i (by repeat constructor)) (List.getElem?_eq_some_iff.1 hkf).1) ?_
 refine JL.ef0 (Ef.sSt Tryz.sizeOf9 (t0 rfl) (t2 rfl) rfl (by repeat constructor) hkf (by decide) rfl ?_)
 rw [show (kcs q.2.2).set (0 : Int).toNat ([str k0.1, .int .i64 (k0.2.1 : Int)].set 0 (str xf.1)) = kcs (setK0 xf.1 q.2.2) from kcs_set0 xf.1 hk0]
 refine JL.ns <| J.live (K := [(24, _), (17, _), (16, _), (12, _), (9, _), (8, _)]) ⟨(lk14 rfl), (lk21 rfl), (lk22 rfl), (lk25 rfl), (lk26 rfl), (lk27 rfl), trivial⟩ ?_
 intro ρ22
 refine J.node (a := ka) (cap := kc) (xs := kcs (setK0 xf.1 q.2.2)) (.inner ((setK0 xf.1 q.2.2).map kdp)) rfl (by repeat constructor) ?_
 intro hkc
 have hkc3 : q.2.2.length ≤ kc := by simpa using hkc
 obtain ⟨MM, hMM⟩ : ∃ MM, MM = midK (asK x) q.2.2 (i - 1) (i + 1) := ⟨_, rfl⟩
 obtain ⟨mm1, mm2⟩ := midK_ok (fr := (i - 1)) (to := (i + 1)) kx1 k3 (by omega)
 rw [← hMM] at mm1 mm2 hfin
 have hmid : (⟨xa, xc, nd ((h + 1) + 1) x⟩ : NdV).cells.take (i - 1) ++ (⟨ka, kc, .inner ((setK0 xf.1 q.2.2).map kdp)⟩ : NdV).cells ++ (⟨xa, xc, nd ((h + 1) + 1) x⟩ : NdV).cells.drop (i + 1) = kcs MM := by rw [hMM]; unfold midK; rw [kcs_app, kcs_app, kcs_take, kcs_drop, hka]; rfl
 have hmm3 : ∀ p ∈ MM.map kdp, kdOk p := fun p hp => by obtain ⟨z, hz1, rfl⟩ := List.mem_map.1 hp; exact mm1 z hz1
 have hmsz := sizeI_le hmm3
 rw [List.length_map] at hmsz
 have hxcl : (⟨xa, xc, nd ((h + 1) + 1) x⟩ : NdV).cells.length = (asK x).length := kcs_length _
 refine J.draw [lz, lz, lz, lz, lz, lz, lz, ⟨true, 0, 0⟩, ⟨true, 1, 1⟩, ⟨true, 2, 2⟩, ⟨false, 3, 3⟩, ⟨false, 3, 3⟩] [7, 8, 9] mixed rfl <| DRun.at [] [0, 1, 2, 3, 4, 5, 6] rfl rfl ?_ ?_
 exact .nil
 refine DNew.rd rfl (Rd.move (t3 rfl)) <| DNew.rd rfl (Rd.move (t3 rfl)) <| DNew.rd rfl (Rd.slToN Tryz.runUnderlying89 Tryz.sizeOf91 (t1 rfl) (t0 rfl) (by omega)) ?_
 refine DNew.rd rfl (Rd.move (t3 rfl)) <| DNew.rd rfl (Rd.move (t7 rfl)) <| DNew.rd rfl (Rd.move (t6 rfl)) <| DNew.rd rfl (Rd.slFrom Tryz.runUnderlying89 Tryz.sizeOf91 (t1 rfl) (t0 rfl) (by omega)) ?_
 refine DNew.nil <| DRun.ef rfl (Ef.litR (us := [[.slice xa (i - 1) xc], [.slice ka q.2.2.length kc], [.slice (subA xa 2 (i + 1) xc) ((asK x).length - (i + 1)) (xc - (i + 1))]]) (.cons (t4 rfl) (.cons (t3 rfl) (.cons (t0 rfl) .nil))) (lit3i2 _ _ _ _ _ _ _ _ _) (fun x hx => by simp at hx; rcases hx with rfl | rfl | rfl <;> rfl) rfl rfl (by decide) ?_)
 intro br
 refine DRun.at [] [] rfl rfl ?_ ?_
 exact .nil
 refine DNew.nil <| DRun.ef rfl (Ef.call (.cons (t0 rfl) .nil) ((icat3 br (⟨xa, xc, nd ((h + 1) + 1) x⟩ : NdV) (⟨ka, kc, .inner ((setK0 xf.1 q.2.2).map kdp)⟩ : NdV) (i - 1) (i + 1) (asK x).length q.2.2.length hxcl (by show (kcs (setK0 xf.1 q.2.2)).length = _; simp) (by rw [hxcl]; omega) (by rw [hxcl]; omega) (by rw [hxcl]; show (asK x).length * 2 + (kcs (setK0 xf.1 q.2.2)).length ≤ _; simp only [kcs_length, setK0_length]; omega)).demote) (by repeat constructor) ?_)
 rintro ⟨ga, gc⟩ hgc
 rw [hmid, kcs_length] at hgc
 rw [hmid, kcs_length]
 simp only [cA, nA]
 refine DRun.at [] [] rfl rfl ?_ ?_
 exact .nil
 refine DNew.nil <| DRun.ef rfl (Ef.call (.cons (t0 rfl) .nil) (ipack_all MM.length ga MM.length gc (MM.map kdp) (List.length_map _) (Nat.le_of_eq (List.length_map _)) hmm3 hgc (by omega) (by omega)) (by repeat constructor) ?_)
 rintro ⟨pa, pc, px⟩ hpx
 simp only [cA, nA]
 refine DRun.end [] [10, 11] rfl rfl ?_ ?_
 exact .nil
 exact DNew.rd rfl (Rd.assign (t0 rfl)) <| DNew.rd rfl (Rd.assign Ev.c) <| DNew.n2 <| J.ret <| At.ret ((pa, pc, px)) (by rw [hfin]; show px.map _ = _; rw [packK_map]; exact hpx) (ResV.two rfl (t1 rfl) (t0 rfl)) (by first | (rw [hfin]; done) | (rw [hfin]; rfl) | (rw [hfin, hrc]; rfl)) (fun _ s => by rw [hfin]; exact Stars.sel (by repeat constructor) s)
 intro hc21
 have hq22 : q.2.2 = [] := List.eq_nil_of_length_eq_zero (by omega)
 rw [show kcs q.2.2 = kcs (setK0 xf.1 q.2.2) by rw [hq22]; rfl]
 refine J.skip <| At.next <| J.seq <| J.node (a := ka) (cap := kc) (xs := kcs (setK0 xf.1 q.2.2)) (.inner ((setK0 xf.1 q.2.2).map kdp)) rfl (by repeat constructor) ?_
 intro hkc
 have hkc3 : q.2.2.length ≤ kc := by simpa using hkc
 obtain ⟨MM, hMM⟩ : ∃ MM, MM = midK (asK x) q.2.2 (i - 1) (i + 1) := ⟨_, rfl⟩
 obtain ⟨mm1, mm2⟩ := midK_ok (fr := (i - 1)) (to := (i + 1)) kx1 k3 (by omega)
 rw [← hMM] at mm1 mm2 hfin
 have hmid : (⟨xa, xc, nd ((h + 1) + 1) x⟩ : NdV).cells.take (i - 1) ++ (⟨ka, kc, .inner ((setK0 xf.1 q.2.2).map kdp)⟩ : NdV).cells ++ (⟨xa, xc, nd ((h + 1) + 1) x⟩ : NdV).cells.drop (i + 1) = kcs MM := by rw [hMM]; unfold midK; rw [kcs_app, kcs_app, kcs_take, kcs_drop, hka]; rfl
 have hmm3 : ∀ p ∈ MM.map kdp, kdOk p := fun p hp => by obtain ⟨z, hz1, rfl⟩ := List.mem_map.1 hp; exact mm1 z hz1
 have hmsz := sizeI_le hmm3
 rw [List.length_map] at hmsz
 have hxcl : (⟨xa, xc, nd ((h + 1) + 1) x⟩ : NdV).cells.length = (asK x).length := kcs_length _
 refine J.draw [lz, lz, lz, lz, lz, lz, lz, ⟨true, 0, 0⟩, ⟨true, 1, 1⟩, ⟨true, 2, 2⟩, ⟨false, 3, 3⟩, ⟨false, 3, 3⟩] [7, 8, 9] mixed rfl <| DRun.at [] [0, 1, 2, 3, 4, 5, 6] rfl rfl ?_ ?_
 exact .nil
 refine DNew.rd rfl (Rd.move (t17 rfl)) <| DNew.rd rfl (Rd.move (t15 rfl)) <| DNew.rd rfl (Rd.slToN Tryz.runUnderlying89 Tryz.sizeOf91 (t1 rfl) (t0 rfl) (by omega)) ?_
 refine DNew.rd rfl (Rd.move (t9 rfl)) <| DNew.rd rfl (Rd.move (t21 rfl)) <| DNew.rd rfl (Rd.move (t18 rfl)) <| DNew.rd rfl (Rd.slFrom Tryz.runUnderlying89 Tryz.sizeOf91 (t1 rfl) (t0 rfl) (by omega)) ?_
 refine DNew.nil <| DRun.ef rfl (Ef.litR (us := [[.slice xa (i - 1) xc], [.slice ka q.2.2.length kc], [.slice (subA xa 2 (i + 1) xc) ((asK x).length - (i + 1)) (xc - (i + 1))]]) (.cons (t4 rfl) (.cons (t3 rfl) (.cons (t0 rfl) .nil))) (lit3i2 _ _ _ _ _ _ _ _ _) (fun x hx => by simp at hx; rcases hx with rfl | rfl | rfl <;> rfl) rfl rfl (by decide) ?_)
 intro br
 refine DRun.at [] [] rfl rfl ?_ ?_
 exact .nil
 refine DNew.nil <| DRun.ef rfl (Ef.call (.cons (t0 rfl) .nil) ((icat3 br (⟨xa, xc, nd ((h + 1) + 1) x⟩ : NdV) (⟨ka, kc, .inner ((setK0 xf.1 q.2.2).map kdp)⟩ : NdV) (i - 1) (i + 1) (asK x).length q.2.2.length hxcl (by show (kcs (setK0 xf.1 q.2.2)).length = _; simp) (by rw [hxcl]; omega) (by rw [hxcl]; omega) (by rw [hxcl]; show (asK x).length * 2 + (kcs (setK0 xf.1 q.2.2)).length ≤ _; simp only [kcs_length, setK0_length]; omega)).demote) (by repeat constructor) ?_)
 rintro ⟨ga, gc⟩ hgc
 rw [hmid, kcs_length] at hgc
 rw [hmid, kcs_length]
 simp only [cA, nA]
 refine DRun.at [] [] rfl rfl ?_ ?_
 exact .nil
 refine DNew.nil <| DRun.ef rfl (Ef.call (.cons (t0 rfl) .nil) (ipack_all MM.length ga MM.length gc (MM.map kdp) (List.length_map _) (Nat.le_of_eq (List.length_map _)) hmm3 hgc (by omega) (by omega)) (by repeat constructor) ?_)
 rintro ⟨pa, pc, px⟩ hpx
 simp only [cA, nA]
 refine DRun.end [] [10, 11] rfl rfl ?_ ?_
 exact .nil
 exact DNew.rd rfl (Rd.assign (t0 rfl)) <| DNew.rd rfl (Rd.assign Ev.c) <| DNew.n2 <| J.ret <| At.ret ((pa, pc, px)) (by rw [hfin]; show px.map _ = _; rw [packK_map]; exact hpx) (ResV.two rfl (t1 rfl) (t0 rfl)) (by first | (rw [hfin]; done) | (rw [hfin]; rfl) | (rw [hfin, hrc]; rfl)) (fun _ s => by rw [hfin]; exact Stars.sel (by repeat constructor) s)
 intro hb6p hb6
 refine JL.skG rfl (EvB (t0 rfl) hb6) rfl <| JL.skG rfl (EvB (t1 rfl) hb6) rfl <| JL.skG rfl (EvB (t2 rfl) hb6) rfl <| JL.rd (Rd.pickF (EvB (t3 rfl) hb6) Ev.c) <| JL.n2 <| J.condF (t0 rfl) <| J.skip <| At.next <| J.seq ?_
 rw [show ((i : Int) + 1) = ((i + 1 : Nat) : Int) from rfl]
 have hys3 := hys
 have hLL := o3
 have hLn := o4
 have hsx : StOk r.1 := o1.ok (e0.ok hok)
 have hsn : smallL r.2.2 = false := by
   by_cases hl1 : ys.length = 1
   · obtain ⟨_, hr2⟩ := hy1 hl1; rw [hr2]; exact decide_eq_false (by omega)
   · exact small_not (by rw [← hyl]; exact hl1)
 have hmir : (replT f key mk ((h + 1) + 1) x b st) = endT f (asK x) r.2.2 i (i + 1) r.1 := by rw [hi]; exact repl_end hdn hc0 hr he0 hsn
 obtain ⟨k1, k2, k3, k4, k5⟩ := kidsT_ok hf r.2.2 r.1 hLL hsx
 have hyl3 : r.2.2.length = ys.length := by have := congrArg List.length hys3; simpa using this.symm
 obtain ⟨xf, hxf0⟩ : ∃ xf, (asK x)[(i : Nat)]? = some xf := ⟨_, List.getElem?_eq_getElem (by omega)⟩
 have hka := keyAt_eq hxf0
 have hxf : (kcs (asK x))[((i : Int)).toNat]? = some [str xf.1, .int .i64 (xf.2.1 : Int)] := kcs_get hxf0
 refine J.region <| JL.mv (t22 rfl) <| JL.mv (t18 rfl) <| JL.ef (Ef.call (.cons (t1 rfl) (.cons (t0 rfl) .nil)) (kids_any c t d m f root r.1 (h + 1) r.2.2 ys la ys.length lc hys3 hyl3 (by omega) hLL hsx (row la lc 76 1 (nvals ys)) (fun t => SIn.row t)) (by repeat constructor) ?_)
 rintro ⟨ka, kc⟩ -
 obtain ⟨q, hq⟩ : ∃ q, q = kidsT f r.2.2 r.1 := ⟨_, rfl⟩
 rw [← hq] at k1 k2 k3 k4 k5
 rw [← hq]
 simp only [cA, nA]
 refine JL.mv (t0 rfl) <| JL.e (t0 rfl) <| JL.e (t1 rfl) <| JL.as (t1 rfl) <| JL.as (t1 rfl) <| JL.ns <| J.seq <| J.live (K := [(11, _), (24, _), (17, _), (16, _), (12, _), (9, _), (8, _)]) ⟨lk0, (lk1 rfl), (lk22 rfl), (lk23 rfl), (lk27 rfl), (lk28 rfl), (lk29 rfl), trivial⟩ ?_
 intro ρ23
 refine J.region <| JL.mv (t0 rfl) <| JL.rd (Rd.neq (t0 rfl) Ev.c) <| JL.n2 <| J.condD (t0 rfl) ?_ ?_
 intro hc24
 have hfin : (replT f key mk ((h + 1) + 1) x b st) = (q.1, q.2.1, []) := by rw [hmir]; unfold endT; rw [← hq, if_pos hc24]
 exact J.sr <| JL.mv (t2 rfl) <| JL.as Ev.c <| JL.as (t1 rfl) <| JL.nr <| At.nextR <| At.ret ((none, 0, [])) (by rw [hfin]; rfl) (ResV.two rfl (t1 rfl) (t0 rfl)) (by first | (rw [hfin]; done) | (rw [hfin]; rfl) | (rw [hfin, hrc]; rfl)) (fun _ s => by rw [hfin]; exact row_nil 76 1 (nodesM_nil (Stars.sel (by repeat constructor) s)))
 intro hc24
 have hq0 : q.2.1 = 0 := by simpa using hc24
 have hfin : (replT f key mk ((h + 1) + 1) x b st) = (q.1, 0, packK (midK (asK x) q.2.2 i (i + 1))) := by rw [hmir]; unfold endT; rw [← hq, if_neg (by rw [hq0]; decide)]; rfl
 have hk5 := k5 hq0
 refine J.skip <| At.next <| J.seq <| J.sr <| JL.mv (t3 rfl) <| JL.rd (Rd.len Tryz.runUnderlying89 (t0 rfl)) <| JL.rd (Rd.gtr (t0 rfl) Ev.c) <| JL.n2 <| J.condD (t0 rfl) ?_ ?_
 intro hc25
 obtain ⟨k0, hk0⟩ : ∃ k0, q.2.2[0]? = some k0 := ⟨_, List.getElem?_eq_getElem (by omega)⟩
 have hkf : (kcs q.2.2)[(0 : Int).toNat]? = some [str k0.1, .int .i64 (k0.2.1 : Int)] := kcs_get hk0
 refine J.region <| JL.mv (t6 rfl) <| JL.mv (t10 rfl) <| JL.mv (t10 rfl) <| JL.rd (Rd.sIdx Tryz.runUnderlying89 Tryz.sizeOf91 (t1 rfl) (t0 rfl) (Src.i (by repeat constructor)) (by first | (simp; done) | (simp; omega) | omega | (simp [*]; done) | (simp [*]; omega)) (by omega) (by omega)) ?_
 refine JL.rd (Rd.sFld0 fld_91_0 (t0 rfl) (Src.i (by repeat constructor)) (List.getElem?_eq_some_iff.1 hxf).1) ?_
 refine JL.rd (Rd.sLd Tryz.isAgg9 (t0 rfl) (Src.i (by repeat constructor)) hxf rfl) ?_
 refine JL.rd (Rd.sIdx Tryz.runUnderlying89 Tryz.sizeOf91 (t5 rfl) Ev.c (Src.i (by repeat constructor)) (by first | (simp; done) | (simp; omega) | omega | (simp [*]; done) | (simp [*]; omega)) (by omega) (by omega)) ?_
 refine JL.rd (Rd.sFld0 fld_91_0 (t0 rfl) (Src.i (by repeat constructor)) (List.getElem?_eq_some_iff.1 hkf).1) ?_
 refine JL.ef0 (Ef.sSt Tryz.sizeOf9 (t0 rfl) (t2 rfl) rfl (by repeat constructor) hkf (by decide) rfl ?_)
 rw [show (kcs q.2.2).set (0 : Int).toNat ([str k0.1, .int .i64 (k0.2.1 : Int)].set 0 (str xf.1)) = kcs (setK0 xf.1 q.2.2) from kcs_set0 xf.1 hk0]
 refine JL.ns <| J.node (a := ka) (cap := kc) (xs := kcs (setK0 xf.1 q.2.2)) (.inner ((setK0 xf.1 q.2.2).map kdp)) rfl (by repeat constructor) ?_
 intro hkc
 have hkc3 : q.2.2.length ≤ kc := by simpa using hkc
 obtain ⟨MM, hMM⟩ : ∃ MM, MM = midK (asK x) q.2.2 i (i + 1) := ⟨_, rfl⟩
 obtain ⟨mm1, mm2⟩ := midK_ok (fr := i) (to := (i + 1)) kx1 k3 (by omega)
 rw [← hMM] at mm1 mm2 hfin
 have hmid : (⟨xa, xc, nd ((h + 1) + 1) x⟩ : NdV).cells.take i ++ (⟨ka, kc, .inner ((setK0 xf.1 q.2.2).map kdp)⟩ : NdV).cells ++ (⟨xa, xc, nd ((h + 1) + 1) x⟩ : NdV).cells.drop (i + 1) = kcs MM := by rw [hMM]; unfold midK; rw [kcs_app, kcs_app, kcs_take, kcs_drop, hka]; rfl
 have hmm3 : ∀ p ∈ MM.map kdp, kdOk p := fun p hp => by obtain ⟨z, hz1, rfl⟩ := List.mem_map.1 hp; exact mm1 z hz1
 have hmsz := sizeI_le hmm3
 rw [List.length_map] at hmsz
 have hxcl : (⟨xa, xc, nd ((h + 1) + 1) x⟩ : NdV).cells.length = (asK x).length := kcs_length _
 refine J.draw [lz, lz, lz, lz, lz, lz, lz, ⟨true, 0, 0⟩, ⟨true, 1, 1⟩, ⟨true, 2, 2⟩, ⟨false, 3, 3⟩, ⟨false, 3, 3⟩] [7, 8, 9] mixed rfl <| DRun.at [] [0, 1, 2, 3, 4, 5, 6] rfl rfl ?_ ?_
 exact .nil
 refine DNew.rd rfl (Rd.move (t17 rfl)) <| DNew.rd rfl (Rd.move (t17 rfl)) <| DNew.rd rfl (Rd.slToN Tryz.runUnderlying89 Tryz.sizeOf91 (t1 rfl) (t0 rfl) (by omega)) ?_
 refine DNew.rd rfl (Rd.move (t17 rfl)) <| DNew.rd rfl (Rd.move (t21 rfl)) <| DNew.rd rfl (Rd.move (t20 rfl)) <| DNew.rd rfl (Rd.slFrom Tryz.runUnderlying89 Tryz.sizeOf91 (t1 rfl) (t0 rfl) (by omega)) ?_
 refine DNew.nil <| DRun.ef rfl (Ef.litR (us := [[.slice xa i xc], [.slice ka q.2.2.length kc], [.slice (subA xa 2 (i + 1) xc) ((asK x).length - (i + 1)) (xc - (i + 1))]]) (.cons (t4 rfl) (.cons (t3 rfl) (.cons (t0 rfl) .nil))) (lit3i2 _ _ _ _ _ _ _ _ _) (fun x hx => by simp at hx; rcases hx with rfl | rfl | rfl <;> rfl) rfl rfl (by decide) ?_)
 intro br
 refine DRun.at [] [] rfl rfl ?_ ?_
 exact .nil
 refine DNew.nil <| DRun.ef rfl (Ef.call (.cons (t0 rfl) .nil) ((icat3 br (⟨xa, xc, nd ((h + 1) + 1) x⟩ : NdV) (⟨ka, kc, .inner ((setK0 xf.1 q.2.2).map kdp)⟩ : NdV) i (i + 1) (asK x).length q.2.2.length hxcl (by show (kcs (setK0 xf.1 q.2.2)).length = _; simp) (by rw [hxcl]; omega) (by rw [hxcl]; omega) (by rw [hxcl]; show (asK x).length * 2 + (kcs (setK0 xf.1 q.2.2)).length ≤ _; simp only [kcs_length, setK0_length]; omega)).demote) (by repeat constructor) ?_)
 rintro ⟨ga, gc⟩ hgc
 rw [hmid, kcs_length] at hgc
 rw [hmid, kcs_length]
 simp only [cA, nA]
 refine DRun.at [] [] rfl rfl ?_ ?_
 exact .nil
 refine DNew.nil <| DRun.ef rfl (Ef.call (.cons (t0 rfl) .nil) (ipack_all MM.length ga MM.length gc (MM.map kdp) (List.length_map _) (Nat.le_of_eq (List.length_map _)) hmm3 hgc (by omega) (by omega)) (by repeat constructor) ?_)
 rintro ⟨pa, pc, px⟩ hpx
 simp only [cA, nA]
 refine DRun.end [] [10, 11] rfl rfl ?_ ?_
 exact .nil
 exact DNew.rd rfl (Rd.assign (t0 rfl)) <| DNew.rd rfl (Rd.assign Ev.c) <| DNew.n2 <| J.ret <| At.ret ((pa, pc, px)) (by rw [hfin]; show px.map _ = _; rw [packK_map]; exact hpx) (ResV.two rfl (t1 rfl) (t0 rfl)) (by first | (rw [hfin]; done) | (rw [hfin]; rfl) | (rw [hfin, hrc]; rfl)) (fun _ s => by rw [hfin]; exact Stars.sel (by repeat constructor) s)
 intro hc25
 have hq22 : q.2.2 = [] := List.eq_nil_of_length_eq_zero (by omega)
 rw [show kcs q.2.2 = kcs (setK0 xf.1 q.2.2) by rw [hq22]; rfl]
 refine J.skip <| At.next <| J.seq <| J.node (a := ka) (cap := kc) (xs := kcs (setK0 xf.1 q.2.2)) (.inner ((setK0 xf.1 q.2.2).map kdp)) rfl (by repeat constructor) ?_
 intro hkc
 have hkc3 : q.2.2.length ≤ kc := by simpa using hkc
 obtain ⟨MM, hMM⟩ : ∃ MM, MM = midK (asK x) q.2.2 i (i + 1) := ⟨_, rfl⟩
 obtain ⟨mm1, mm2⟩ := midK_ok (fr := i) (to := (i + 1)) kx1 k3 (by omega)
 rw [← hMM] at mm1 mm2 hfin
 have hmid : (⟨xa, xc, nd ((h + 1) + 1) x⟩ : NdV).cells.take i ++ (⟨ka, kc, .inner ((setK0 xf.1 q.2.2).map kdp)⟩ : NdV).cells ++ (⟨xa, xc, nd ((h + 1) + 1) x⟩ : NdV).cells.drop (i + 1) = kcs MM := by rw [hMM]; unfold midK; rw [kcs_app, kcs_app, kcs_take, kcs_drop, hka]; rfl
 have hmm3 : ∀ p ∈ MM.map kdp, kdOk p := fun p hp => by obtain ⟨z, hz1, rfl⟩ := List.mem_map.1 hp; exact mm1 z hz1
 have hmsz := sizeI_le hmm3
 rw [List.length_map] at hmsz
 have hxcl : (⟨xa, xc, nd ((h + 1) + 1) x⟩ : NdV).cells.length = (asK x).length := kcs_length _
 refine J.draw [lz, lz, lz, lz, lz, lz, lz, ⟨true, 0, 0⟩, ⟨true, 1, 1⟩, ⟨true, 2, 2⟩, ⟨false, 3, 3⟩, ⟨false, 3, 3⟩] [7, 8, 9] mixed rfl <| DRun.at [] [0, 1, 2, 3, 4, 5, 6] rfl rfl ?_ ?_
 exact .nil
 refine DNew.rd rfl (Rd.move (t9 rfl)) <| DNew.rd rfl (Rd.move (t9 rfl)) <| DNew.rd rfl (Rd.slToN Tryz.runUnderlying89 Tryz.sizeOf91 (t1 rfl) (t0 rfl) (by omega)) ?_
 refine DNew.rd rfl (Rd.move (t9 rfl)) <| DNew.rd rfl (Rd.move (t13 rfl)) <| DNew.rd rfl (Rd.move (t12 rfl)) <| DNew.rd rfl (Rd.slFrom Tryz.runUnderlying89 Tryz.sizeOf91 (t1 rfl) (t0 rfl) (by omega)) ?_
 refine DNew.nil <| DRun.ef rfl (Ef.litR (us := [[.slice xa i xc], [.slice ka q.2.2.length kc], [.slice (subA xa 2 (i + 1) xc) ((asK x).length - (i + 1)) (xc - (i + 1))]]) (.cons (t4 rfl) (.cons (t3 rfl) (.cons (t0 rfl) .nil))) (lit3i2 _ _ _ _ _ _ _ _ _) (fun x hx => by simp at hx; rcases hx with rfl | rfl | rfl <;> rfl) rfl rfl (by decide) ?_)
 intro br
 refine DRun.at [] [] rfl rfl ?_ ?_
 exact .nil
 refine DNew.nil <| DRun.ef rfl (Ef.call (.cons (t0 rfl) .nil) ((icat3 br (⟨xa, xc, nd ((h + 1) + 1) x⟩ : NdV) (⟨ka, kc, .inner ((setK0 xf.1 q.2.2).map kdp)⟩ : NdV) i (i + 1) (asK x).length q.2.2.length hxcl (by show (kcs (setK0 xf.1 q.2.2)).length = _; simp) (by rw [hxcl]; omega) (by rw [hxcl]; omega) (by rw [hxcl]; show (asK x).length * 2 + (kcs (setK0 xf.1 q.2.2)).length ≤ _; simp only [kcs_length, setK0_length]; omega)).demote) (by repeat constructor) ?_)
 rintro ⟨ga, gc⟩ hgc
 rw [hmid, kcs_length] at hgc
 rw [hmid, kcs_length]
 simp only [cA, nA]
 refine DRun.at [] [] rfl rfl ?_ ?_
 exact .nil
 refine DNew.nil <| DRun.ef rfl (Ef.call (.cons (t0 rfl) .nil) (ipack_all MM.length ga MM.length gc (MM.map kdp) (List.length_map _) (Nat.le_of_eq (List.length_map _)) hmm3 hgc (by omega) (by omega)) (by repeat constructor) ?_)
 rintro ⟨pa, pc, px⟩ hpx
 simp only [cA, nA]
 refine DRun.end [] [10, 11] rfl rfl ?_ ?_
 exact .nil
 exact DNew.rd rfl (Rd.assign (t0 rfl)) <| DNew.rd rfl (Rd.assign Ev.c) <| DNew.n2 <| J.ret <| At.ret ((pa, pc, px)) (by rw [hfin]; show px.map _ = _; rw [packK_map]; exact hpx) (ResV.two rfl (t1 rfl) (t0 rfl)) (by first | (rw [hfin]; done) | (rw [hfin]; rfl) | (rw [hfin, hrc]; rfl)) (fun _ s => by rw [hfin]; exact Stars.sel (by repeat constructor) s)
 intro hb5p hb5
 refine JL.skG rfl (EvB (t0 rfl) hb5) rfl <| JL.skG rfl (EvB (t1 rfl) hb5) rfl <| JL.skG rfl (EvB (t2 rfl) hb5) rfl <| JL.skG rfl (EvB (t3 rfl) hb5) rfl <| JL.rd (Rd.pickF (EvB (t4 rfl) hb5) Ev.c) <| JL.mv (t0 rfl) <| JL.skG rfl (t0 rfl) rfl <| JL.skG rfl (t1 rfl) rfl <| JL.skG rfl (t2 rfl) rfl <| JL.rd (Rd.pickF (t3 rfl) Ev.c) <| JL.n2 <| J.condF (t0 rfl) <| J.skip <| At.next <| J.seq ?_
 rw [show ((i : Int) + 1) = ((i + 1 : Nat) : Int) from rfl]
 have hys3 := hys
 have hLL := o3
 have hLn := o4
 have hsx : StOk r.1 := o1.ok (e0.ok hok)
 have hsn : smallL r.2.2 = false := by
   by_cases hl1 : ys.length = 1
   · obtain ⟨_, hr2⟩ := hy1 hl1; rw [hr2]; exact decide_eq_false (by omega)
   · exact small_not (by rw [← hyl]; exact hl1)
 have hmir : (replT f key mk ((h + 1) + 1) x b st) = endT f (asK x) r.2.2 i (i + 1) r.1 := by rw [hi]; exact repl_end hdn hc0 hr he0 hsn
 obtain ⟨k1, k2, k3, k4, k5⟩ := kidsT_ok hf r.2.2 r.1 hLL hsx
 have hyl3 : r.2.2.length = ys.length := by have := congrArg List.length hys3; simpa using this.symm
 obtain ⟨xf, hxf0⟩ : ∃ xf, (asK x)[(i : Nat)]? = some xf := ⟨_, List.getElem?_eq_getElem (by omega)⟩
 have hka := keyAt_eq hxf0
 have hxf : (kcs (asK x))[((i : Int)).toNat]? = some [str xf.1, .int .i64 (xf.2.1 : Int)] := kcs_get hxf0
 refine J.region <| JL.mv (t22 rfl) <| JL.mv (t18 rfl) <| JL.ef (Ef.call (.cons (t1 rfl) (.cons (t0 rfl) .nil)) (kids_any c t d m f root r.1 (h + 1) r.2.2 ys la ys.length lc hys3 hyl3 (by omega) hLL hsx (row la lc 76 1 (nvals ys)) (fun t => SIn.row t)) (by repeat constructor) ?_)
 rintro ⟨ka, kc⟩ -
 obtain ⟨q, hq⟩ : ∃ q, q = kidsT f r.2.2 r.1 := ⟨_, rfl⟩
 rw [← hq] at k1 k2 k3 k4 k5
 rw [← hq]
 simp only [cA, nA]
 refine JL.mv (t0 rfl) <| JL.e (t0 rfl) <| JL.e (t1 rfl) <| JL.as (t1 rfl) <| JL.as (t1 rfl) <| JL.ns <| J.seq <| J.live (K := [(11, _), (24, _), (17, _), (16, _), (12, _), (9, _), (8, _)]) ⟨lk0, (lk1 rfl), (lk22 rfl), (lk23 rfl), (lk27 rfl), (lk28 rfl), (lk29 rfl), trivial⟩ ?_
 intro ρ26
 refine J.region <| JL.mv (t0 rfl) <| JL.rd (Rd.neq (t0 rfl) Ev.c) <| JL.n2 <| J.condD (t0 rfl) ?_ ?_
 intro hc27
 have hfin : (replT f key mk ((h + 1) + 1) x b st) = (q.1, q.2.1, []) := by rw [hmir]; unfold endT; rw [← hq, if_pos hc27]
 exact J.sr <| JL.mv (t2 rfl) <| JL.as Ev.c <| JL.as (t1 rfl) <| JL.nr <| At.nextR <| At.ret ((none, 0, [])) (by rw [hfin]; rfl) (ResV.two rfl (t1 rfl) (t0 rfl)) (by first | (rw [hfin]; done) | (rw [hfin]; rfl) | (rw [hfin, hrc]; rfl)) (fun _ s => by rw [hfin]; exact row_nil 76 1 (nodesM_nil (Stars.sel (by repeat constructor) s)))
 intro hc27
 have hq0 : q.2.1 = 0 := by simpa using hc27
 have hfin : (replT f key mk ((h + 1) + 1) x b st) = (q.1, 0, packK (midK (asK x) q.2.2 i (i + 1))) := by rw [hmir]; unfold endT; rw [← hq, if_neg (by rw [hq0]; decide)]; rfl
 have hk5 := k5 hq0
 refine J.skip <| At.next <| J.seq <| J.sr <| JL.mv (t3 rfl) <| JL.rd (Rd.len Tryz.runUnderlying89 (t0 rfl)) <| JL.rd (Rd.gtr (t0 rfl) Ev.c) <| JL.n2 <| J.condD (t0 rfl) ?_ ?_
 intro hc28
 obtain ⟨k0, hk0⟩ : ∃ k0, q.2.2[0]? = some k0 := ⟨_, List.getElem?_eq_getElem (by omega)⟩
 have hkf : (kcs q.2.2)[(0 : Int).toNat]? = some [str k0.1, .int .i64 (k0.2.1 : Int)] := kcs_get hk0
 refine J.region <| JL.mv (t6 rfl) <| JL.mv (t10 rfl) <| JL.mv (t10 rfl) <| JL.rd (Rd.sIdx Tryz.runUnderlying89 Tryz.sizeOf91 (t1 rfl) (t0 rfl) (Src.i (by repeat constructor)) (by first | (simp; done) | (simp; omega) | omega | (simp [*]; done) | (simp [*]; omega)) (by omega) (by omega)) ?_
 refine JL.rd (Rd.sFld0 fld_91_0 (t0 rfl) (Src.i (by repeat constructor)) (List.getElem?_eq_some_iff.1 hxf).1) ?_
 refine JL.rd (Rd.sLd Tryz.isAgg9 (t0 rfl) (Src.i (by repeat constructor)) hxf rfl) ?_
 refine JL.rd (Rd.sIdx Tryz.runUnderlying89 Tryz.sizeOf91 (t5 rfl) Ev.c (Src.i (by repeat constructor)) (by first | (simp; done) | (simp; omega) | omega | (simp [*]; done) | (simp [*]; omega)) (by omega) (by omega)) ?_
 refine JL.rd (Rd.sFld0 fld_91_0 (t0 rfl) (Src.i (by repeat constructor)) (List.getElem?_eq_some_iff.1 hkf).1) ?_
 refine JL.ef0 (Ef.sSt Tryz.sizeOf9 (t0 rfl) (t2 rfl) rfl (by repeat constructor) hkf (by decide) rfl ?_)
 rw [show (kcs q.2.2).set (0 : Int).toNat ([str k0.1, .int .i64 (k0.2.1 : Int)].set 0 (str xf.1)) = kcs (setK0 xf.1 q.2.2) from kcs_set0 xf.1 hk0]
 refine JL.ns <| J.node (a := ka) (cap := kc) (xs := kcs (setK0 xf.1 q.2.2)) (.inner ((setK0 xf.1 q.2.2).map kdp)) rfl (by repeat constructor) ?_
 intro hkc
 have hkc3 : q.2.2.length ≤ kc := by simpa using hkc
 obtain ⟨MM, hMM⟩ : ∃ MM, MM = midK (asK x) q.2.2 i (i + 1) := ⟨_, rfl⟩
 obtain ⟨mm1, mm2⟩ := midK_ok (fr := i) (to := (i + 1)) kx1 k3 (by omega)
 rw [← hMM] at mm1 mm2 hfin
 have hmid : (⟨xa, xc, nd ((h + 1) + 1) x⟩ : NdV).cells.take i ++ (⟨ka, kc, .inner ((setK0 xf.1 q.2.2).map kdp)⟩ : NdV).cells ++ (⟨xa, xc, nd ((h + 1) + 1) x⟩ : NdV).cells.drop (i + 1) = kcs MM := by rw [hMM]; unfold midK; rw [kcs_app, kcs_app, kcs_take, kcs_drop, hka]; rfl
 have hmm3 : ∀ p ∈ MM.map kdp, kdOk p := fun p hp => by obtain ⟨z, hz1, rfl⟩ := List.mem_map.1 hp; exact mm1 z hz1
 have hmsz := sizeI_le hmm3
 rw [List.length_map] at hmsz
 have hxcl : (⟨xa, xc, nd ((h + 1) + 1) x⟩ : NdV).cells.length = (asK x).length := kcs_length _
 refine J.draw [lz, lz, lz, lz, lz, lz, lz, ⟨true, 0, 0⟩, ⟨true, 1, 1⟩, ⟨true, 2, 2⟩, ⟨false, 3, 3⟩, ⟨false, 3, 3⟩] [7, 8, 9] mixed rfl <| DRun.at [] [0, 1, 2, 3, 4, 5, 6] rfl rfl ?_ ?_
 exact .nil
 refine DNew.rd rfl (Rd.move (t17 rfl)) <| DNew.rd rfl (Rd.move (t17 rfl)) <| DNew.rd rfl (Rd.slToN Tryz.runUnderlying89 Tryz.sizeOf91 (t1 rfl) (t0 rfl) (by omega)) ?_
 refine DNew.rd rfl (Rd.move (t17 rfl)) <| DNew.rd rfl (Rd.move (t21 rfl)) <| DNew.rd rfl (Rd.move (t20 rfl)) <| DNew.rd rfl (Rd.slFrom Tryz.runUnderlying89 Tryz.sizeOf91 (t1 rfl) (t0 rfl) (by omega)) ?_
 refine DNew.nil <| DRun.ef rfl (Ef.litR (us := [[.slice xa i xc], [.slice ka q.2.2.length kc], [.slice (subA xa 2 (i + 1) xc) ((asK x).length - (i + 1)) (xc - (i + 1))]]) (.cons (t4 rfl) (.cons (t3 rfl) (.cons (t0 rfl) .nil))) (lit3i2 _ _ _ _ _ _ _ _ _) (fun x hx => by simp at hx; rcases hx with rfl | rfl | rfl <;> rfl) rfl rfl (by decide) ?_)
 intro br
 refine DRun.at [] [] rfl rfl ?_ ?_
 exact .nil
 refine DNew.nil <| DRun.ef rfl (Ef.call (.cons (t0 rfl) .nil) ((icat3 br (⟨xa, xc, nd ((h + 1) + 1) x⟩ : NdV) (⟨ka, kc, .inner ((setK0 xf.1 q.2.2).map kdp)⟩ : NdV) i (i + 1) (asK x).length q.2.2.length hxcl (by show (kcs (setK0 xf.1 q.2.2)).length = _; simp) (by rw [hxcl]; omega) (by rw [hxcl]; omega) (by rw [hxcl]; show (asK x).length * 2 + (kcs (setK0 xf.1 q.2.2)).length ≤ _; simp only [kcs_length, setK0_length]; omega)).demote) (by repeat constructor) ?_)
 rintro ⟨ga, gc⟩ hgc
 rw [hmid, kcs_length] at hgc
 rw [hmid, kcs_length]
 simp only [cA, nA]
 refine DRun.at [] [] rfl rfl ?_ ?_
 exact .nil
 refine DNew.nil <| DRun.ef rfl (Ef.call (.cons (t0 rfl) .nil) (ipack_all MM.length ga MM.length gc (MM.map kdp) (List.length_map _) (Nat.le_of_eq (List.length_map _)) hmm3 hgc (by omega) (by omega)) (by repeat constructor) ?_)
 rintro ⟨pa, pc, px⟩ hpx
 simp only [cA, nA]
 refine DRun.end [] [10, 11] rfl rfl ?_ ?_
 exact .nil
 exact DNew.rd rfl (Rd.assign (t0 rfl)) <| DNew.rd rfl (Rd.assign Ev.c) <| DNew.n2 <| J.ret <| At.ret ((pa, pc, px)) (by rw [hfin]; show px.map _ = _; rw [packK_map]; exact hpx) (ResV.two rfl (t1 rfl) (t0 rfl)) (by first | (rw [hfin]; done) | (rw [hfin]; rfl) | (rw [hfin, hrc]; rfl)) (fun _ s => by rw [hfin]; exact Stars.sel (by repeat constructor) s)
 intro hc28
 have hq22 : q.2.2 = [] := List.eq_nil_of_length_eq_zero (by omega)
 rw [show kcs q.2.2 = kcs (setK0 xf.1 q.2.2) by rw [hq22]; rfl]
 refine J.skip <| At.next <| J.seq <| J.node (a := ka) (cap := kc) (xs := kcs (setK0 xf.1 q.2.2)) (.inner ((setK0 xf.1 q.2.2).map kdp)) rfl (by repeat constructor) ?_
 intro hkc
 have hkc3 : q.2.2.length ≤ kc := by simpa using hkc
 obtain ⟨MM, hMM⟩ : ∃ MM, MM = midK (asK x) q.2.2 i (i + 1) := ⟨_, rfl⟩
 obtain ⟨mm1, mm2⟩ := midK_ok (fr := i) (to := (i + 1)) kx1 k3 (by omega)
 rw [← hMM] at mm1 mm2 hfin
 have hmid : (⟨xa, xc, nd ((h + 1) + 1) x⟩ : NdV).cells.take i ++ (⟨ka, kc, .inner ((setK0 xf.1 q.2.2).map kdp)⟩ : NdV).cells ++ (⟨xa, xc, nd ((h + 1) + 1) x⟩ : NdV).cells.drop (i + 1) = kcs MM := by rw [hMM]; unfold midK; rw [kcs_app, kcs_app, kcs_take, kcs_drop, hka]; rfl
 have hmm3 : ∀ p ∈ MM.map kdp, kdOk p := fun p hp => by obtain ⟨z, hz1, rfl⟩ := List.mem_map.1 hp; exact mm1 z hz1
 have hmsz := sizeI_le hmm3
 rw [List.length_map] at hmsz
 have hxcl : (⟨xa, xc, nd ((h + 1) + 1) x⟩ : NdV).cells.length = (asK x).length := kcs_length _
 refine J.draw [lz, lz, lz, lz, lz, lz, lz, ⟨true, 0, 0⟩, ⟨true, 1, 1⟩, ⟨true, 2, 2⟩, ⟨false, 3, 3⟩, ⟨false, 3, 3⟩] [7, 8, 9] mixed rfl <| DRun.at [] [0, 1, 2, 3, 4, 5, 6] rfl rfl ?_ ?_
 exact .nil
 refine DNew.rd rfl (Rd.move (t9 rfl)) <| DNew.rd rfl (Rd.move (t9 rfl)) <| DNew.rd rfl (Rd.slToN Tryz.runUnderlying89 Tryz.sizeOf91 (t1 rfl) (t0 rfl) (by omega)) ?_
 refine DNew.rd rfl (Rd.move (t9 rfl)) <| DNew.rd rfl (Rd.move (t13 rfl)) <| DNew.rd rfl (Rd.move (t12 rfl)) <| DNew.rd rfl (Rd.slFrom Tryz.runUnderlying89 Tryz.sizeOf91 (t1 rfl) (t0 rfl) (by omega)) ?_
 refine DNew.nil <| DRun.ef rfl (Ef.litR (us := [[.slice xa i xc], [.slice ka q.2.2.length kc], [.slice (subA xa 2 (i + 1) xc) ((asK x).length - (i + 1)) (xc - (i + 1))]]) (.cons (t4 rfl) (.cons (t3 rfl) (.cons (t0 rfl) .nil))) (lit3i2 _ _ _ _ _ _ _ _ _) (fun x hx => by simp at hx; rcases hx with rfl | rfl | rfl <;> rfl) rfl rfl (by decide) ?_)
 intro br
 refine DRun.at [] [] rfl rfl ?_ ?_
 exact .nil
 refine DNew.nil <| DRun.ef rfl (Ef.call (.cons (t0 rfl) .nil) ((icat3 br (⟨xa, xc, nd ((h + 1) + 1) x⟩ : NdV) (⟨ka, kc, .inner ((setK0 xf.1 q.2.2).map kdp)⟩ : NdV) i (i + 1) (asK x).length q.2.2.length hxcl (by show (kcs (setK0 xf.1 q.2.2)).length = _; simp) (by rw [hxcl]; omega) (by rw [hxcl]; omega) (by rw [hxcl]; show (asK x).length * 2 + (kcs (setK0 xf.1 q.2.2)).length ≤ _; simp only [kcs_length, setK0_length]; omega)).demote) (by repeat constructor) ?_)
 rintro ⟨ga, gc⟩ hgc
 rw [hmid, kcs_length] at hgc
 rw [hmid, kcs_length]
 simp only [cA, nA]
 refine DRun.at [] [] rfl rfl ?_ ?_
 exact .nil
 refine DNew.nil <| DRun.ef rfl (Ef.call (.cons (t0 rfl) .nil) (ipack_all MM.length ga MM.length gc (MM.map kdp) (List.length_map _) (Nat.le_of_eq (List.length_map _)) hmm3 hgc (by omega) (by omega)) (by repeat constructor) ?_)
 rintro ⟨pa, pc, px⟩ hpx
 simp only [cA, nA]
 refine DRun.end [] [10, 11] rfl rfl ?_ ?_
 exact .nil
 exact DNew.rd rfl (Rd.assign (t0 rfl)) <| DNew.rd rfl (Rd.assign Ev.c) <| DNew.n2 <| J.ret <| At.ret ((pa, pc, px)) (by rw [hfin]; show px.map _ = _; rw [packK_map]; exact hpx) (ResV.two rfl (t1 rfl) (t0 rfl)) (by first | (rw [hfin]; done) | (rw [hfin]; rfl) | (rw [hfin, hrc]; rfl)) (fun _ s => by rw [hfin]; exact Stars.sel (by repeat constructor) s)
end Go.Proofs.YtbhladkbnleeoaaGreat

namespace Go.Proofs.YtbhladkbnleeoaaGreat

abbrev Rt := Option ((h : Nat) × Nat × Tr h)
def rootI : Rt → Int
  | none => -1
  | some r => (r.2.1 : Int)
def kid1 {h : Nat} : List (Kt h) → Rt
  | [p] => some ⟨h, p.2.1, p.2.2⟩
  | _ => none
def oneKid : (h : Nat) → List (Tr h) → Rt
  | 0, _ => none
  | _ + 1, [t] => kid1 (asK t)
  | _ + 1, _ => none
def growT (f : Nat) : Nat → (h : Nat) → List (Tr h) → BSt → BSt × Int × Rt
  | 0, _, _, st => (st, 0, none)
  | n + 1, h, l, st =>
    if l.length = 0 then (st, 0, none)
    else if (oneKid h l).isSome then (st, 0, oneKid h l)
    else if (kidsT f l st).2.1 ≠ 0 then ((kidsT f l st).1, (kidsT f l st).2.1, none)
    else if (kid1 (kidsT f l st).2.2).isSome then ((kidsT f l st).1, 0, kid1 (kidsT f l st).2.2)
    else growT f n (h + 1) (packK (kidsT f l st).2.2) (kidsT f l st).1
theorem kid1_some {h : Nat} {ks : List (Kt h)} {p : Kt h} (hl : ks.length = 1) (hp : ks[0]? = some p) : kid1 ks = some ⟨h, p.2.1, p.2.2⟩ := by
  match ks, hl with
  | [q], _ => cases hp; rfl
theorem kid1_none {h : Nat} {ks : List (Kt h)} (hl : ks.length ≠ 1) : kid1 ks = none := by
  match ks, hl with
  | [], _ => rfl
  | [q], hl => exact absurd rfl hl
  | _ :: _ :: _, _ => rfl
theorem packK_half {h : Nat} {ks : List (Kt h)} (hk : ∀ p ∈ ks, kdOk (kdp p)) (h2 : 2 ≤ ks.length) : 2 * (packK ks).length ≤ ks.length := by
  have h3 := packF_least (divT (h := h)) ks.length ks hk h2
  have h4 := packF_flat (divT (h := h)) ks.length ks hk (Nat.le_refl _)
  have hgo : ∀ (l : List (List (Kt h))), (∀ p ∈ l, 2 ≤ p.length) → 2 * l.length ≤ l.flatten.length := by
    intro l
    induction l with
    | nil => intro _; exact Nat.le_refl _
    | cons p l ih =>
      intro hl
      have a := hl p (List.mem_cons_self ..)
      have b := ih fun q hq => hl q (List.mem_cons_of_mem _ hq)
      rw [List.flatten_cons, List.length_append, List.length_cons]
      omega
  have := hgo _ h3
  rw [h4] at this
  exact this
def giveL (f : Nat) (s : Bs) : List Nat → Bs
  | [] => s
  | b :: l => giveL f (giveS f s (b : Int)) l
theorem giveL_snoc (f : Nat) (l : List Nat) (b : Nat) : ∀ s : Bs, giveL f s (l ++ [b]) = giveS f (giveL f s l) (b : Int) := by
  induction l with
  | nil => intro s; rfl
  | cons a l ih => intro s; exact ih _
def GiveOk (f : Nat) (s : Bs) : List Nat → Prop
  | [] => True
  | b :: l => giveC f s (b : Int) = 0 ∧ GiveOk f (giveS f s (b : Int)) l
theorem GiveOk.at {f : Nat} : ∀ {l : List Nat} {s : Bs} {x b : Nat}, GiveOk f s l → l[x]? = some b → giveC f (giveL f s (l.take x)) (b : Int) = 0 := by
  intro l
  induction l with
  | nil => intro s x b _ h; cases h
  | cons a l ih =>
    intro s x b h hx
    cases x with
    | zero => cases hx; exact h.1
    | succ x => exact ih (s := giveS f s (a : Int)) h.2 hx
def finT (f : Nat) (h : Nat) (r : BSt × Int × List (Tr h)) : BSt × Int × Rt := if r.2.1 ≠ 0 then (r.1, r.2.1, none) else growT f r.2.2.length h r.2.2 r.1
def applyT (f : Nat) (key : Bs) (mk : List It) (rt : Rt) (D : Dk) (s : Bs) : BSt × Int × Rt :=
  match rt with
  | none => finT f 0 (⟨D, s, [], []⟩, 0, packL (edS mk key []))
  | some r => finT f r.1 (replT f key mk r.1 r.2.2 r.2.1 ⟨D, s, [], []⟩)
theorem growT_ok {f : Nat} (hf : f ≤ 1073741824) : ∀ (n h : Nat) (l : List (Tr h)) (st : BSt), TsG l → StOk st → Ext f st (growT f n h l st).1 ∧ (growT f n h l st).1.gn = st.gn := by
  intro n
  induction n with
  | zero => intro h l st _ _; exact ⟨Ext.refl _ _, rfl⟩
  | succ n ih =>
    intro h l st hl hs
    obtain ⟨k1, k2, k3, k4, k5⟩ := kidsT_ok hf l st hl hs
    unfold growT
    split
    · exact ⟨Ext.refl _ _, rfl⟩
    · split
      · exact ⟨Ext.refl _ _, rfl⟩
      · split
        · exact ⟨k1, k2⟩
        · split
          · exact ⟨k1, k2⟩
          · obtain ⟨i1, i2⟩ := ih (h + 1) (packK (kidsT f l st).2.2) (kidsT f l st).1 (packK_ok k3).1 (k1.ok hs)
            exact ⟨k1.trans i1, i2.trans k2⟩
def apS (f : Nat) (A : BSt × Int × Rt) : Bs := if A.2.1 = 0 then giveL f A.1.s A.1.gn else giveL f A.1.s A.1.tk
def apR (A : BSt × Int × Rt) (rt : Rt) : Rt := if A.2.1 = 0 then A.2.2 else rt
theorem StOk.few {st : BSt} (h : StOk st) : st.tk.length ≤ 65536 := by have := h.2.1; omega
end Go.Proofs.YtbhladkbnleeoaaGreat

namespace Go.Proofs.YtbhladkbnleeoaaGreat
set_option maxRecDepth 100000
attribute [local irreducible] J JL At Rd Ef DNew DCar DRun Then RetQ LoopQ

theorem repl_any (c t d m f : Nat) (root : Int) (hf : f ≤ 1073741824) (key : Bs) (mk : List It) (hmk : ∀ e ∈ mk, itOk e) (hmk1 : mk.length ≤ 1) (gf : Nat) (caps : List Value) (Kc : Assn) (Qp : List It → Prop) (hE : ∀ (a : Option Addr) (cap : Nat) (l : List It), sorted l → l.length ≤ cap → l.length ≤ 10000 → Qp l → Fn Tryz.prog gf (.slice a l.length cap :: caps) [rowR a 2 (l.map itc), Kc] (X := Option Addr × Nat) (fun x => (edS mk key l).length ≤ x.2) (fun x => .slice x.1 (edS mk key l).length x.2) (fun x => [rowR x.1 2 ((edS mk key l).map itc), Kc])) : ∀ (h : Nat), h ≤ 32 → ∀ (tr : Tr h) (b : Nat) (st : BSt), Hd f st.D st.s h tr b → StOk st → st.gn.length + 2 * h + 2 ≤ 1048576 → Qp (leafAt key h tr) →
    Fn Tryz.prog 64 [.pointer (some ⟨c, 0, none⟩), .int .i64 (b : Int), str key, .func (.func gf) #[] caps.toArray] [chA c t st.tk st.gn, pts t (.cells [.pointer (some ⟨d, 0, none⟩), .pointer (some ⟨m, 0, none⟩), .int .i64 root].toArray 68), dk d st.D, bm m f st.s, Kc] (X := Option Addr × Nat × List NdV) (fun z => z.2.2.map (·.n) = (replT f key mk h tr b st).2.2.map (nd h)) (fun z => .tuple #[.slice z.1 z.2.2.length z.2.1, .int .i64 (replT f key mk h tr b st).2.1]) (fun z => [row z.1 z.2.1 76 1 (nvals z.2.2), nodesM z.2.2, chA c t (replT f key mk h tr b st).1.tk (replT f key mk h tr b st).1.gn, pts t (.cells [.pointer (some ⟨d, 0, none⟩), .pointer (some ⟨m, 0, none⟩), .int .i64 root].toArray 68), dk d (replT f key mk h tr b st).1.D, bm m f (replT f key mk h tr b st).1.s, Kc]) := by
  intro h
  induction h with
  | zero => intro _ tr b st hH hok hg hQ; exact repl_leaf c t d m f root hf key mk hmk hmk1 gf caps Kc Qp hE tr b st hH hok (by omega) hQ
  | succ h ih =>
    intro hh
    have ih := ih (by omega)
    cases h with
    | zero => intro tr b st hH hok hg hQ; exact repl_l c t d m f root hf key mk hmk hmk1 gf caps Kc Qp hE ih tr b st hH hok (by omega) hQ
    | succ h => intro tr b st hH hok hg hQ; exact repl_i c t d m f root hf key mk hmk hmk1 gf caps Kc Qp hE h (by omega) ih tr b st hH hok (by omega) hQ
def NdV.ty (x : NdV) : Nat := match x.n with | .leaf _ => 85 | .inner _ => 89
def smallN : Nd → Bool
  | .leaf _ => false
  | .inner l => decide ((l.length : Int) = 1)
def smallG : Nd → Nat
  | .leaf _ => 134
  | .inner _ => 137
theorem NdV.val_eq (x : NdV) : x.val = .iface x.ty (.slice x.a x.cells.length x.cap) := by
  obtain ⟨a, c, n⟩ := x
  cases n with
  | leaf l => show Value.iface 85 (.slice a l.length c) = .iface 85 (.slice a (l.map itc).length c); rw [List.length_map]
  | inner l => show Value.iface 89 (.slice a l.length c) = .iface 89 (.slice a (l.map kdc).length c); rw [List.length_map]
theorem mth_small (x : NdV) (v : Value) : ∀ w, (Go.method (Tryz.prog.types.size + Made.depth) x.ty v "replevin/btree.small").run Tryz.prog w = .ok (smallG x.n, v) w := by
  obtain ⟨a, c, n⟩ := x
  cases n with
  | leaf l => exact mth_lsmall v
  | inner l => exact mth_ismall v
theorem small_nd (x : NdV) : Fn Tryz.prog (smallG x.n) [.slice x.a x.cells.length x.cap] [] (X := Unit) (fun _ => True) (fun _ => .bool (smallN x.n)) (fun _ => []) := by
  obtain ⟨a, c, n⟩ := x
  cases n with
  | leaf l => exact lsmall0 a c _
  | inner l =>
    have := ismall0 a c (NdV.cells ⟨a, c, .inner l⟩).length
    have e : (NdV.cells ⟨a, c, .inner l⟩).length = l.length := List.length_map _
    rw [e] at this ⊢
    exact this

set_option maxHeartbeats 1000000 in
theorem grow_any (c t d m f : Nat) (root : Int) (hf : f ≤ 1073741824) (n0 H0 : Nat) (l0 : List (Tr H0)) (st : BSt) (la0 : Option Addr) (lc0 : Nat) (ys0 : List NdV) (hys0 : ys0.map (·.n) = l0.map (nd H0)) (hTs0 : TsG l0) (hok0 : StOk st) (hn0 : l0.length ≤ n0) (hl0 : l0.length ≤ 8000) :
    Fn Tryz.prog 65 [.pointer (some ⟨c, 0, none⟩), .slice la0 ys0.length lc0] [chA c t st.tk st.gn, pts t (.cells [.pointer (some ⟨d, 0, none⟩), .pointer (some ⟨m, 0, none⟩), .int .i64 root].toArray 68), dk d st.D, bm m f st.s, row la0 lc0 76 1 (nvals ys0), nodesM ys0] (X := Unit) (fun _ => True) (fun _ => .tuple #[.int .i64 (if (growT f n0 H0 l0 st).2.1 = 0 then rootI (growT f n0 H0 l0 st).2.2 else 0), .int .i64 (growT f n0 H0 l0 st).2.1]) (fun _ => [chA c t (growT f n0 H0 l0 st).1.tk (growT f n0 H0 l0 st).1.gn, pts t (.cells [.pointer (some ⟨d, 0, none⟩), .pointer (some ⟨m, 0, none⟩), .int .i64 root].toArray 68), dk d (growT f n0 H0 l0 st).1.D, bm m f (growT f n0 H0 l0 st).1.s]) := by
 refine Fn.mk' (n := 47) (l := [(0, .pointer (some ⟨c, 0, none⟩)), (1, .slice la0 ys0.length lc0)]) (fn := Tryz.f65) Tryz.func65 (by kernel_rfl) rfl rfl (by simp) rfl ?_
 intro h0 w0
 refine J.sr <| JL.as Ev.c <| JL.as Ev.c <| JL.nb <| J.loop (X := Nat × ((h : Nat) × List (Tr h)) × BSt × Option Addr × Nat × List NdV) (fun (x : Nat × ((h : Nat) × List (Tr h)) × BSt × Option Addr × Nat × List NdV) => [(1, .slice x.2.2.2.1 x.2.2.2.2.2.length x.2.2.2.2.1)]) (K := [(5, _), (4, _), (0, _)]) (fun x => [row x.2.2.2.1 x.2.2.2.2.1 76 1 (nvals x.2.2.2.2.2), nodesM x.2.2.2.2.2, chA c t x.2.2.1.tk x.2.2.1.gn, pts t (.cells [.pointer (some ⟨d, 0, none⟩), .pointer (some ⟨m, 0, none⟩), .int .i64 root].toArray 68), dk d x.2.2.1.D, bm m f x.2.2.1.s]) (fun x => growT f x.1 x.2.1.1 x.2.1.2 x.2.2.1 = growT f n0 H0 l0 st ∧ x.2.2.2.2.2.map (·.n) = x.2.1.2.map (nd x.2.1.1) ∧ TsG x.2.1.2 ∧ StOk x.2.2.1 ∧ x.2.1.2.length ≤ x.1 ∧ x.2.1.2.length ≤ 8000) (fun x => x.1) ((n0, ⟨H0, l0⟩, st, la0, lc0, ys0)) ?_ ⟨(lk3 rfl).trans (by first | with_reducible rfl | (congr 1; omega) | (simp; done) | (simp [*]; done)), trivial⟩ ⟨lk0, (lk1 rfl), (lk2 rfl), trivial⟩ (fun _ => Stars.sel (by repeat constructor)) ?_
 exact ⟨rfl, hys0, hTs0, hok0, hn0, hl0⟩
 rintro ⟨n, ⟨h, l⟩, sx, la, lc, ys⟩ ρ ⟨hgr, hys, hTs, hok, hln, hl8⟩
 simp only [cA, nA]
 dsimp only at hgr hys hTs hok hln hl8 ⊢
 have hyl : l.length = ys.length := by have := congrArg List.length hys; simpa using this.symm
 obtain ⟨y1, y2, tt, hy1⟩ := one_of hys
 have hnv : ys.length = 1 → (nvals ys)[(0 : Int).toNat]? = some [.iface (⟨y1, y2, nd h tt⟩ : NdV).ty (.slice y1 (⟨y1, y2, nd h tt⟩ : NdV).cells.length y2)] := fun hl1 => by rw [(hy1 hl1).1]; show some [NdV.val _] = _; rw [NdV.val_eq]
 refine J.block <| J.seq <| J.block <| J.sr <| JL.mv (t0 rfl) <| JL.rd (Rd.len Tryz.runUnderlying132 (t0 rfl)) <| JL.rd (Rd.eql (t0 rfl) Ev.c) <| JL.as (t0 rfl) <| JL.n2 <| J.condD (t0 rfl) ?_ ?_
 intro hc1
 have hfin : growT f n0 H0 l0 st = (sx, 0, none) := by rw [← hgr]; cases n with | zero => rfl | succ n => exact if_pos (by omega)
 exact J.sr <| JL.as Ev.c <| JL.as Ev.c <| JL.nr <| At.blkR <| At.nextR <| At.blkR <| At.loopR <| At.blkR <| At.ret (()) (trivial) (ResV.two rfl (t1 rfl) (t0 rfl)) (by first | (rw [hfin]; rfl) | (rw [hfin]; show _ = Value.tuple #[.int .i64 (if q.2.1 = 0 then rootI none else 0), .int .i64 q.2.1]; rw [if_neg (by assumption)])) (fun _ s => by rw [hfin]; exact Stars.sel (by repeat constructor) s)
 intro hc1
 obtain ⟨nn, rfl⟩ : ∃ nn, n = nn + 1 := ⟨n - 1, by omega⟩
 have hgo : growT f (nn + 1) h l sx = if (oneKid h l).isSome then (sx, 0, oneKid h l) else if (kidsT f l sx).2.1 ≠ 0 then ((kidsT f l sx).1, (kidsT f l sx).2.1, none) else if (kid1 (kidsT f l sx).2.2).isSome then ((kidsT f l sx).1, 0, kid1 (kidsT f l sx).2.2) else growT f nn (h + 1) (packK (kidsT f l sx).2.2) (kidsT f l sx).1 := if_neg (by omega)
 refine J.sr <| JL.mv (t4 rfl) <| JL.rd (Rd.len Tryz.runUnderlying132 (t0 rfl)) <| JL.rd (Rd.eql (t0 rfl) Ev.c) <| JL.mv (t0 rfl) <| JL.caseD (t0 rfl) ?_ ?_
 intro hb2p hb2
 refine JL.rdG rfl (EvB (t0 rfl) hb2) rfl (Rd.move (t8 rfl)) <| JL.rdG rfl (EvB (t1 rfl) hb2) rfl (Rd.sIdx Tryz.runUnderlying132 Tryz.sizeOf76 (t0 rfl) Ev.c (Src.i (by repeat constructor)) (by first | (simp; done) | (simp; omega) | omega | (simp [*]; done) | (simp [*]; omega)) (by omega) (by omega)) ?_
 refine JL.rdG rfl (EvB (t2 rfl) hb2) rfl (Rd.sLd Tryz.isAgg76 (t0 rfl) (Src.i (by repeat constructor)) (hnv (by omega)) rfl) ?_
 refine JL.efG rfl (EvB (t3 rfl) hb2) rfl (Ef.callm (t0 rfl) (mth_small ⟨y1, y2, nd h tt⟩ _) .nil (small_nd ⟨y1, y2, nd h tt⟩) (by repeat constructor) ?_)
 rintro - -
 simp only [nA]
 refine JL.rd (Rd.pickT (EvB (t4 rfl) hb2) (t0 rfl)) <| JL.as (t0 rfl) <| JL.n2 <| J.cond (t0 rfl) ?_ ?_
 intro hc3
 have hyl1 : ys.length = 1 := by omega
 obtain ⟨hys1, hl1⟩ := hy1 hyl1
 subst hys1 hl1
 obtain ⟨h1, rfl⟩ : ∃ h1, h = h1 + 1 := by
   cases h with
   | zero => exact absurd (show false = true from hc3) (by decide)
   | succ h1 => exact ⟨h1, rfl⟩
 have htl : (asK tt).length = 1 := by have h9 : decide ((((asK tt).map kdp).length : Int) = 1) = true := hc3; have h8 := of_decide_eq_true h9; rw [List.length_map] at h8; omega
 obtain ⟨p1, hp1⟩ := List.length_eq_one_iff.1 htl
 have hp10 : (asK tt)[0]? = some p1 := by rw [hp1]; rfl
 have hone : oneKid (h1 + 1) [tt] = some ⟨h1, p1.2.1, p1.2.2⟩ := kid1_some htl hp10
 have hfin : growT f n0 H0 l0 st = (sx, 0, some ⟨h1, p1.2.1, p1.2.2⟩) := by rw [← hgr, hgo, hone]; rfl
 have hnv2 : (nvals [(⟨y1, y2, nd (h1 + 1) tt⟩ : NdV)])[(0 : Int).toNat]? = some [.iface 89 (.slice y1 (asK tt).length y2)] := by show some [Value.iface 89 (.slice y1 ((asK tt).map kdp).length y2)] = _; rw [List.length_map]
 have hk1 : (kcs (asK tt))[(0 : Int).toNat]? = some [str p1.1, .int .i64 (p1.2.1 : Int)] := kcs_get hp10
 refine J.nodeGet (List.mem_singleton.2 rfl) (by repeat constructor) ?_
 intro hxc
 rw [show NdV.cells ⟨y1, y2, nd (h1 + 1) tt⟩ = kcs (asK tt) from rfl]
 refine J.sr <| JL.mv (t14 rfl) <| JL.rd (Rd.sIdx Tryz.runUnderlying132 Tryz.sizeOf76 (t0 rfl) Ev.c (Src.i (by repeat constructor)) (by first | (simp; done) | (simp; omega) | omega | (simp [*]; done) | (simp [*]; omega)) (by omega) (by omega)) ?_
 refine JL.rd (Rd.sLd Tryz.isAgg76 (t0 rfl) (Src.i (by repeat constructor)) hnv2 rfl) ?_
 refine JL.rd (Rd.asT (t0 rfl) Tryz.runUnderlying89 (fun _ h => by cases h)) <| JL.rd (Rd.sIdx Tryz.runUnderlying89 Tryz.sizeOf91 (t0 rfl) Ev.c (Src.i (by repeat constructor)) (by first | (simp; done) | (simp; omega) | omega | (simp [*]; done) | (simp [*]; omega)) (by omega) (by omega)) ?_
 refine JL.rd (Rd.sFld0 fld_91_1 (t0 rfl) (Src.i (by repeat constructor)) (List.getElem?_eq_some_iff.1 hk1).1) ?_
 refine JL.rd (Rd.sLd Tryz.isAgg3 (t0 rfl) (Src.i (by repeat constructor)) hk1 rfl) ?_
 exact JL.as (t0 rfl) <| JL.as Ev.c <| JL.nr <| At.blkR <| At.nextR <| At.blkR <| At.loopR <| At.blkR <| At.ret (()) (trivial) (ResV.two rfl (t1 rfl) (t0 rfl)) (by first | (rw [hfin]; rfl) | (rw [hfin]; show _ = Value.tuple #[.int .i64 (if q.2.1 = 0 then rootI none else 0), .int .i64 q.2.1]; rw [if_neg (by assumption)])) (fun _ s => by rw [hfin]; exact Stars.sel (by repeat constructor) s)
 intro hc3
 refine J.skip <| At.blkN <| At.next <| J.seq ?_
 have hno : (oneKid h l).isSome = false := by
   cases h with
   | zero => rfl
   | succ h1 =>
     by_cases hyl1 : ys.length = 1
     · obtain ⟨_, hl1⟩ := hy1 hyl1
       rw [hl1]
       have h9 : smallN (nd (h1 + 1) tt) = false := by first | assumption | (exfalso; omega)
       have h7 : decide ((((asK tt).map kdp).length : Int) = 1) = false := h9
       have h8 := of_decide_eq_false h7
       rw [List.length_map] at h8
       show (kid1 (asK tt)).isSome = false
       rw [kid1_none (by omega)]; rfl
     · match l, (show l.length ≠ 1 by omega) with
       | [], _ => rfl
       | [u], hl => exact absurd rfl hl
       | _ :: _ :: _, _ => rfl
 rw [if_neg (by rw [hno]; decide)] at hgo
 refine J.region <| JL.mv (t17 rfl) <| JL.mv (t15 rfl) <| JL.ef (Ef.call (.cons (t1 rfl) (.cons (t0 rfl) .nil)) (kids_any c t d m f root sx h l ys la ys.length lc hys hyl (by omega) hTs hok (row la lc 76 1 (nvals ys)) (fun t => SIn.row t)) (by repeat constructor) ?_)
 rintro ⟨ka, kc⟩ -
 obtain ⟨q, hq⟩ : ∃ q, q = kidsT f l sx := ⟨_, rfl⟩
 obtain ⟨k1, k2, k3, k4, k5⟩ := kidsT_ok hf l sx hTs hok
 rw [← hq] at k1 k2 k3 k4 k5 hgo
 rw [← hq]
 simp only [cA, nA]
 refine JL.mv (t0 rfl) <| JL.e (t0 rfl) <| JL.e (t1 rfl) <| JL.as (t1 rfl) <| JL.as (t1 rfl) <| JL.n5 <| JL.mv (t0 rfl) <| JL.rd (Rd.neq (t0 rfl) Ev.c) <| JL.n2 <| J.condD (t0 rfl) ?_ ?_
 intro hc4
 have hfin : growT f n0 H0 l0 st = (q.1, q.2.1, none) := by rw [← hgr, hgo, if_pos hc4]
 exact J.sr <| JL.mv (t2 rfl) <| JL.as Ev.c <| JL.as (t1 rfl) <| JL.nr <| At.nextR <| At.blkR <| At.loopR <| At.blkR <| At.ret (()) (trivial) (ResV.two rfl (t1 rfl) (t0 rfl)) (by first | (rw [hfin]; rfl) | (rw [hfin]; show _ = Value.tuple #[.int .i64 (if q.2.1 = 0 then rootI none else 0), .int .i64 q.2.1]; rw [if_neg (by assumption)])) (fun _ s => by rw [hfin]; exact Stars.sel (by repeat constructor) s)
 intro hc4
 have hq0 : q.2.1 = 0 := by simpa using hc4
 rw [if_neg (by rw [hq0]; decide)] at hgo
 have hk5 := k5 hq0
 refine J.skip <| At.next <| J.seq <| J.sr <| JL.mv (t3 rfl) <| JL.rd (Rd.len Tryz.runUnderlying89 (t0 rfl)) <| JL.rd (Rd.eql (t0 rfl) Ev.c) <| JL.n2 <| J.condD (t0 rfl) ?_ ?_
 intro hc5
 have hkl1 : q.2.2.length = 1 := by omega
 obtain ⟨p1, hp10⟩ : ∃ p, q.2.2[0]? = some p := ⟨_, List.getElem?_eq_getElem (by omega)⟩
 have hone := kid1_some hkl1 hp10
 have hfin : growT f n0 H0 l0 st = (q.1, 0, some ⟨h, p1.2.1, p1.2.2⟩) := by rw [← hgr, hgo, hone]; rfl
 have hk1 : (kcs q.2.2)[(0 : Int).toNat]? = some [str p1.1, .int .i64 (p1.2.1 : Int)] := kcs_get hp10
 refine J.seq <| J.live (K := [(6, _), (1, _), (5, _), (4, _), (0, _)]) ⟨(lk6 rfl), (lk27 rfl), (lk28 rfl), (lk29 rfl), (lk30 rfl), trivial⟩ ?_
 intro ρ6
 refine J.region <| JL.mv (t0 rfl) <| JL.rd (Rd.sIdx Tryz.runUnderlying89 Tryz.sizeOf91 (t0 rfl) Ev.c (Src.i (by repeat constructor)) (by first | (simp; done) | (simp; omega) | omega | (simp [*]; done) | (simp [*]; omega)) (by omega) (by omega)) ?_
 refine JL.rd (Rd.sFld0 fld_91_1 (t0 rfl) (Src.i (by repeat constructor)) (List.getElem?_eq_some_iff.1 hk1).1) ?_
 refine JL.rd (Rd.sLd Tryz.isAgg3 (t0 rfl) (Src.i (by repeat constructor)) hk1 rfl) ?_
 exact JL.as (t0 rfl) <| JL.as Ev.c <| JL.nr <| At.nextR <| At.blkR <| At.loopR <| At.blkR <| At.ret (()) (trivial) (ResV.two rfl (t1 rfl) (t0 rfl)) (by first | (rw [hfin]; rfl) | (rw [hfin]; show _ = Value.tuple #[.int .i64 (if q.2.1 = 0 then rootI none else 0), .int .i64 q.2.1]; rw [if_neg (by assumption)])) (fun _ s => by rw [hfin]; exact Stars.sel (by repeat constructor) s)
 intro hc5
 have hkl1 : q.2.2.length ≠ 1 := by omega
 have hnx : growT f nn (h + 1) (packK q.2.2) q.1 = growT f n0 H0 l0 st := by rw [← hgr, hgo, kid1_none hkl1]; rfl
 have hhalf := packK_half k3 (by omega)
 have hk3m : ∀ p ∈ q.2.2.map kdp, kdOk p := fun p hp => by obtain ⟨z, hz1, rfl⟩ := List.mem_map.1 hp; exact k3 z hz1
 have hks := sizeI_le hk3m
 rw [List.length_map] at hks
 refine J.skip <| At.next <| J.live (K := [(6, _), (1, _), (5, _), (4, _), (0, _)]) ⟨(lk6 rfl), (lk27 rfl), (lk28 rfl), (lk29 rfl), (lk30 rfl), trivial⟩ ?_
 intro ρ7
 refine J.know (fun h s => row_capS (Stars.sel (pre := [row ka kc 91 2 (kcs q.2.2)]) (by repeat constructor) s)) ?_
 intro hkc
 rw [kcs_length] at hkc
 refine J.demote (a := ka) (cap := kc) (xs := kcs q.2.2) (by repeat constructor) ?_
 refine J.region <| JL.mv (t0 rfl) <| JL.ef (Ef.call (.cons (t0 rfl) .nil) (ipack_all q.2.2.length ka q.2.2.length kc (q.2.2.map kdp) (List.length_map _) (Nat.le_of_eq (List.length_map _)) hk3m hkc (by omega) (by omega)) (by repeat constructor) ?_)
 rintro ⟨pa, pc, px⟩ hpx
 simp only [cA, nA]
 refine JL.as (t0 rfl) <| JL.nil <| At.blkN <| At.again ((nn, ⟨h + 1, packK q.2.2⟩, q.1, pa, pc, px)) ?_ ?_ ⟨lk0.trans (by first | with_reducible rfl | (congr 1; omega) | (simp; done) | (simp [*]; done)), trivial⟩ ⟨(lk5 rfl), (lk6 rfl), (lk7 rfl), trivial⟩ (fun _ => Stars.sel (by repeat constructor))
 exact ⟨hnx, by rw [packK_map]; exact hpx, (packK_ok k3).1, k1.ok hok, by show (packK q.2.2).length ≤ nn; omega, by show (packK q.2.2).length ≤ 8000; omega⟩
 show nn < nn + 1; omega
 intro hb2p hb2
 refine JL.skG rfl (EvB (t0 rfl) hb2) rfl <| JL.skG rfl (EvB (t1 rfl) hb2) rfl <| JL.skG rfl (EvB (t2 rfl) hb2) rfl <| JL.skG rfl (EvB (t3 rfl) hb2) rfl <| JL.rd (Rd.pickF (EvB (t4 rfl) hb2) Ev.c) <| JL.as (t0 rfl) <| JL.n2 <| J.condF (t0 rfl) <| J.skip <| At.blkN <| At.next <| J.seq ?_
 have hno : (oneKid h l).isSome = false := by
   cases h with
   | zero => rfl
   | succ h1 =>
     by_cases hyl1 : ys.length = 1
     · obtain ⟨_, hl1⟩ := hy1 hyl1
       rw [hl1]
       have h9 : smallN (nd (h1 + 1) tt) = false := by first | assumption | (exfalso; omega)
       have h7 : decide ((((asK tt).map kdp).length : Int) = 1) = false := h9
       have h8 := of_decide_eq_false h7
       rw [List.length_map] at h8
       show (kid1 (asK tt)).isSome = false
       rw [kid1_none (by omega)]; rfl
     · match l, (show l.length ≠ 1 by omega) with
       | [], _ => rfl
       | [u], hl => exact absurd rfl hl
       | _ :: _ :: _, _ => rfl
 rw [if_neg (by rw [hno]; decide)] at hgo
 refine J.region <| JL.mv (t17 rfl) <| JL.mv (t15 rfl) <| JL.ef (Ef.call (.cons (t1 rfl) (.cons (t0 rfl) .nil)) (kids_any c t d m f root sx h l ys la ys.length lc hys hyl (by omega) hTs hok (row la lc 76 1 (nvals ys)) (fun t => SIn.row t)) (by repeat constructor) ?_)
 rintro ⟨ka, kc⟩ -
 obtain ⟨q, hq⟩ : ∃ q, q = kidsT f l sx := ⟨_, rfl⟩
 obtain ⟨k1, k2, k3, k4, k5⟩ := kidsT_ok hf l sx hTs hok
 rw [← hq] at k1 k2 k3 k4 k5 hgo
 rw [← hq]
 simp only [cA, nA]
 refine JL.mv (t0 rfl) <| JL.e (t0 rfl) <| JL.e (t1 rfl) <| JL.as (t1 rfl) <| JL.as (t1 rfl) <| JL.n5 <| JL.mv (t0 rfl) <| JL.rd (Rd.neq (t0 rfl) Ev.c) <| JL.n2 <| J.condD (t0 rfl) ?_ ?_
 intro hc8
 have hfin : growT f n0 H0 l0 st = (q.1, q.2.1, none) := by rw [← hgr, hgo, if_pos hc8]
 exact J.sr <| JL.mv (t2 rfl) <| JL.as Ev.c <| JL.as (t1 rfl) <| JL.nr <| At.nextR <| At.blkR <| At.loopR <| At.blkR <| At.ret (()) (trivial) (ResV.two rfl (t1 rfl) (t0 rfl)) (by first | (rw [hfin]; rfl) | (rw [hfin]; show _ = Value.tuple #[.int .i64 (if q.2.1 = 0 then rootI none else 0), .int .i64 q.2.1]; rw [if_neg (by assumption)])) (fun _ s => by rw [hfin]; exact Stars.sel (by repeat constructor) s)
 intro hc8
 have hq0 : q.2.1 = 0 := by simpa using hc8
 rw [if_neg (by rw [hq0]; decide)] at hgo
 have hk5 := k5 hq0
 refine J.skip <| At.next <| J.seq <| J.sr <| JL.mv (t3 rfl) <| JL.rd (Rd.len Tryz.runUnderlying89 (t0 rfl)) <| JL.rd (Rd.eql (t0 rfl) Ev.c) <| JL.n2 <| J.condD (t0 rfl) ?_ ?_
 intro hc9
 have hkl1 : q.2.2.length = 1 := by omega
 obtain ⟨p1, hp10⟩ : ∃ p, q.2.2[0]? = some p := ⟨_, List.getElem?_eq_getElem (by omega)⟩
 have hone := kid1_some hkl1 hp10
 have hfin : growT f n0 H0 l0 st = (q.1, 0, some ⟨h, p1.2.1, p1.2.2⟩) := by rw [← hgr, hgo, hone]; rfl
 have hk1 : (kcs q.2.2)[(0 : Int).toNat]? = some [str p1.1, .int .i64 (p1.2.1 : Int)] := kcs_get hp10
 refine J.seq <| J.live (K := [(6, _), (1, _), (5, _), (4, _), (0, _)]) ⟨(lk6 rfl), (lk27 rfl), (lk28 rfl), (lk29 rfl), (lk30 rfl), trivial⟩ ?_
 intro ρ10
 refine J.region <| JL.mv (t0 rfl) <| JL.rd (Rd.sIdx Tryz.runUnderlying89 Tryz.sizeOf91 (t0 rfl) Ev.c (Src.i (by repeat constructor)) (by first | (simp; done) | (simp; omega) | omega | (simp [*]; done) | (simp [*]; omega)) (by omega) (by omega)) ?_
 refine JL.rd (Rd.sFld0 fld_91_1 (t0 rfl) (Src.i (by repeat constructor)) (List.getElem?_eq_some_iff.1 hk1).1) ?_
 refine JL.rd (Rd.sLd Tryz.isAgg3 (t0 rfl) (Src.i (by repeat constructor)) hk1 rfl) ?_
 exact JL.as (t0 rfl) <| JL.as Ev.c <| JL.nr <| At.nextR <| At.blkR <| At.loopR <| At.blkR <| At.ret (()) (trivial) (ResV.two rfl (t1 rfl) (t0 rfl)) (by first | (rw [hfin]; rfl) | (rw [hfin]; show _ = Value.tuple #[.int .i64 (if q.2.1 = 0 then rootI none else 0), .int .i64 q.2.1]; rw [if_neg (by assumption)])) (fun _ s => by rw [hfin]; exact Stars.sel (by repeat constructor) s)
 intro hc9
 have hkl1 : q.2.2.length ≠ 1 := by omega
 have hnx : growT f nn (h + 1) (packK q.2.2) q.1 = growT f n0 H0 l0 st := by rw [← hgr, hgo, kid1_none hkl1]; rfl
 have hhalf := packK_half k3 (by omega)
 have hk3m : ∀ p ∈ q.2.2.map kdp, kdOk p := fun p hp => by obtain ⟨z, hz1, rfl⟩ := List.mem_map.1 hp; exact k3 z hz1
 have hks := sizeI_le hk3m
 rw [List.length_map] at hks
 refine J.skip <| At.next <| J.live (K := [(6, _), (1, _), (5, _), (4, _), (0, _)]) ⟨(lk6 rfl), (lk27 rfl), (lk28 rfl), (lk29 rfl), (lk30 rfl), trivial⟩ ?_
 intro ρ11
 refine J.know (fun h s => row_capS (Stars.sel (pre := [row ka kc 91 2 (kcs q.2.2)]) (by repeat constructor) s)) ?_
 intro hkc
 rw [kcs_length] at hkc
 refine J.demote (a := ka) (cap := kc) (xs := kcs q.2.2) (by repeat constructor) ?_
 refine J.region <| JL.mv (t0 rfl) <| JL.ef (Ef.call (.cons (t0 rfl) .nil) (ipack_all q.2.2.length ka q.2.2.length kc (q.2.2.map kdp) (List.length_map _) (Nat.le_of_eq (List.length_map _)) hk3m hkc (by omega) (by omega)) (by repeat constructor) ?_)
 rintro ⟨pa, pc, px⟩ hpx
 simp only [cA, nA]
 refine JL.as (t0 rfl) <| JL.nil <| At.blkN <| At.again ((nn, ⟨h + 1, packK q.2.2⟩, q.1, pa, pc, px)) ?_ ?_ ⟨lk0.trans (by first | with_reducible rfl | (congr 1; omega) | (simp; done) | (simp [*]; done)), trivial⟩ ⟨(lk5 rfl), (lk6 rfl), (lk7 rfl), trivial⟩ (fun _ => Stars.sel (by repeat constructor))
 exact ⟨hnx, by rw [packK_map]; exact hpx, (packK_ok k3).1, k1.ok hok, by show (packK q.2.2).length ≤ nn; omega, by show (packK q.2.2).length ≤ 8000; omega⟩
 show nn < nn + 1; omega
set_option maxHeartbeats 1000000 in
theorem apply_none (t d m f : Nat) (hf : f ≤ 1073741824) (key : Bs) (mk : List It) (hmk : ∀ e ∈ mk, itOk e) (hmk1 : mk.length ≤ 1) (gf : Nat) (caps : List Value) (Kc : Assn) (Qp : List It → Prop) (hE : ∀ (a : Option Addr) (cap : Nat) (l : List It), sorted l → l.length ≤ cap → l.length ≤ 10000 → Qp l → Fn Tryz.prog gf (.slice a l.length cap :: caps) [rowR a 2 (l.map itc), Kc] (X := Option Addr × Nat) (fun x => (edS mk key l).length ≤ x.2) (fun x => .slice x.1 (edS mk key l).length x.2) (fun x => [rowR x.1 2 ((edS mk key l).map itc), Kc])) (D : Dk) (s : Bs) (hQ : Qp []) (hok : StOk ⟨D, s, [], []⟩) (hgv : (applyT f key mk (none : Rt) D s).2.1 = 0 → GiveOk f (applyT f key mk (none : Rt) D s).1.s (applyT f key mk (none : Rt) D s).1.gn) (hbt : ∀ bq ∈ (applyT f key mk (none : Rt) D s).1.tk, bq ≤ 1099511627776) (hbd : (applyT f key mk (none : Rt) D s).2.1 = 0 → ∀ bq ∈ (applyT f key mk (none : Rt) D s).1.gn, bq ≤ 1099511627776) :
    Fn Tryz.prog 33 [.pointer (some ⟨t, 0, none⟩), str key, .func (.func gf) #[] caps.toArray] [pts t (.cells [.pointer (some ⟨d, 0, none⟩), .pointer (some ⟨m, 0, none⟩), .int .i64 (-1)].toArray 68), dk d D, bm m f s, Kc] (X := Unit) (fun _ => True) (fun _ => .int .i64 (applyT f key mk (none : Rt) D s).2.1) (fun _ => [pts t (.cells [.pointer (some ⟨d, 0, none⟩), .pointer (some ⟨m, 0, none⟩), .int .i64 (rootI (apR (applyT f key mk (none : Rt) D s) (none : Rt)))].toArray 68), dk d (applyT f key mk (none : Rt) D s).1.D, bm m f (apS f (applyT f key mk (none : Rt) D s)), Kc]) := by
 refine Fn.mk' (n := 87) (l := [(0, .pointer (some ⟨t, 0, none⟩)), (1, str key), (2, .func (.func gf) #[] caps.toArray)]) (fn := Tryz.f33) Tryz.func33 (by kernel_rfl) rfl rfl (by simp) rfl ?_
 intro h0 w0
 obtain ⟨ed1, ed2⟩ := edS_ok (l := []) (key := key) hmk hmk1 (by intro e he; cases he)
 obtain ⟨pk1, pk2⟩ := packL_ok ed1
 have hsz := sizeL_le ed1
 obtain ⟨r, hr⟩ : ∃ r : BSt × Int × List (Tr 0), r = ((⟨D, s, [], []⟩ : BSt), (0 : Int), packL (edS mk key [])) := ⟨_, rfl⟩
 have hr8 : r.2.2.length ≤ 8000 := by rw [hr]; show (packL _).length ≤ _; simp only [List.length_nil] at ed2; omega
 have hTs : TsG (h := 0) r.2.2 := by rw [hr]; exact pk1
 have hokr : StOk r.1 := by rw [hr]; exact hok
 refine J.sr <| JL.as Ev.c <| JL.n4 <| JL.mv (t1 rfl) <| JL.rd (Rd.buildS (.cons (t0 rfl) .nil) bld_131 (by repeat (first | exact FillN.nil | apply FillN.one rfl rfl (by repeat constructor)))) ?_
 refine JL.ef (Ef.box (t0 rfl) rfl ?_)
 intro b1
 refine JL.as (t0 rfl) <| JL.ns <| J.weak (fun _ q => chA_shut (c := b1) (t := t) (tk := []) (gn := []) (a1 := none) (a2 := none) (c1 := 0) (c2 := 0) (Stars.sel (pre := [pts b1 (.cells [.pointer (some ⟨t, 0, none⟩), .slice none 0 0, .slice none 0 0].toArray 131), row none 0 3 1 [], row none 0 3 1 [], pts t (.cells [.pointer (some ⟨d, 0, none⟩), .pointer (some ⟨m, 0, none⟩), .int .i64 (-1)].toArray 68), dk d D, bm m f s, Kc]) (by repeat constructor) (row_nil 3 1 (row_nil 3 1 q)))) ?_
 refine J.region <| JL.as Ev.c <| JL.n4 <| JL.as Ev.c <| JL.n5 <| JL.mv (t7 rfl) <| JL.rd (Rd.nil (t0 rfl)) <| JL.rd ((by first | exact Rd.fld0 fld_68_2 (t0 rfl) | exact Rd.fld fld_68_2 (t0 rfl))) ?_
 refine JL.rd (Rd.ldN Tryz.isAgg3 (t0 rfl) (by repeat constructor) (by repeat constructor)) ?_
 refine JL.rd (Rd.eql (t0 rfl) Ev.c) <| JL.n2 <| J.condDT (t0 rfl) (by omega) ?_
 refine J.weak (fun _ q => rowR_nil none 2 q) <| J.region <| JL.mv (t14 rfl) <| JL.ef (Ef.callv (t0 rfl) (.cons Ev.c .nil) (hE none 0 [] List.Pairwise.nil (Nat.le_refl _) (Nat.zero_le _) hQ) (by repeat constructor) ?_)
 rintro ⟨ea, ec⟩ hec
 simp only [cA, nA]
 refine JL.ef (Ef.call (.cons (t0 rfl) .nil) (lpack_all (edS mk key []).length ea _ ec (edS mk key []) rfl (Nat.le_refl _) ed1 hec (by simp only [List.length_nil] at ed2; omega) (by simp only [List.length_nil] at ed2; omega)) (by repeat constructor) ?_)
 rintro ⟨la, lc, ys⟩ hys
 have hys : ys.map (·.n) = r.2.2.map (nd 0) := by rw [hr]; exact hys
 rw [show dk d D = dk d r.1.D by rw [hr], show bm m f s = bm m f r.1.s by rw [hr], show chA b1 t [] [] = chA b1 t r.1.tk r.1.gn by rw [hr]]
 simp only [cA, nA]
 refine JL.as (t0 rfl) <| JL.n4 <| JL.as Ev.c <| JL.n5 <| JL.mv (t10 rfl) <| JL.rd (Rd.eql (t0 rfl) Ev.c) <| JL.n2 <| J.condT (EvB (t0 rfl) rfl) <| J.region <| JL.mv (t14 rfl) <| JL.mv (t4 rfl) <| JL.ef (Ef.call (.cons (t1 rfl) (.cons (t0 rfl) .nil)) (grow_any b1 t d m f (-1) hf r.2.2.length 0 r.2.2 r.1 la lc ys hys hTs hokr (Nat.le_refl _) hr8) (by repeat constructor) ?_)
 rintro - -
 obtain ⟨g, hg⟩ : ∃ g, g = growT f r.2.2.length 0 r.2.2 r.1 := ⟨_, rfl⟩
 obtain ⟨gk1, gk2⟩ := growT_ok hf r.2.2.length 0 r.2.2 r.1 hTs hokr
 rw [← hg] at gk1 gk2
 have hgt := (gk1.ok hokr).few
 rw [← hg]
 have hAg : (applyT f key mk (none : Rt) D s) = g := by rw [hg, hr]; show finT f 0 ((⟨D, s, [], []⟩ : BSt), (0 : Int), packL (edS mk key [])) = _; exact if_neg (by first | exact fun h => h rfl | (rw [← hr, hr0]; decide))
 simp only [cA, nA]
 refine JL.mv (t0 rfl) <| JL.e (t0 rfl) <| JL.e (t1 rfl) <| JL.as (t1 rfl) <| JL.as (t1 rfl) <| JL.ns <| J.seq <| J.live (K := [(9, _), (10, _), (7, _), (6, _), (0, _)]) ⟨lk0, (lk1 rfl), (lk22 rfl), (lk26 rfl), (lk27 rfl), trivial⟩ ?_
 intro ρ2
 refine J.region <| JL.mv (t0 rfl) <| JL.rd (Rd.neq (t0 rfl) Ev.c) <| JL.n2 <| J.condD (t0 rfl) ?_ ?_
 intro hc3
 refine J.seq <| J.seq ?_
 obtain ⟨E, hEE⟩ : ∃ E, E = g.1 := ⟨_, rfl⟩
 have hgt2 : g.1.tk.length ≤ 65536 := by first | exact hgt | exact hokr.few
 rw [← hEE]
 rw [← hEE] at hgt2
 have hA1 : (applyT f key mk (none : Rt) D s).1 = E := by rw [hAg, hEE]
 have hA2 : (applyT f key mk (none : Rt) D s).2.1 = g.2.1 := by rw [hAg]
 have hne : g.2.1 ≠ 0 := by assumption
 refine J.openT (by repeat constructor) chA_open ?_
 rintro ⟨⟨a1, c1⟩, a2, c2⟩ -
 dsimp only
 simp only [cA, nA]
 refine J.region <| JL.mv (t4 rfl) <| JL.rd (Rd.nil (t0 rfl)) <| JL.rd ((by first | exact Rd.fld0 fld_131_1 (t0 rfl) | exact Rd.fld fld_131_1 (t0 rfl))) ?_
 refine JL.rd (Rd.ldN Tryz.isAgg34 (t0 rfl) (by repeat constructor) (by repeat constructor)) ?_
 refine JL.rd (Rd.len Tryz.runUnderlying34 (t0 rfl)) <| JL.mv Ev.c <| JL.nb <| J.loop (X := Nat) (fun (x : Nat) => [(52, .int .i64 (x : Int))]) (K := [(51, _), (50, _), (9, _), (10, _), (7, _), (6, _), (0, _)]) (fun x => [bm m f (giveL f E.s (E.tk.take x)), pts b1 (.cells [.pointer (some ⟨t, 0, none⟩), .slice a1 E.tk.length c1, .slice a2 E.gn.length c2].toArray 131), row a1 c1 3 1 (natV E.tk), row a2 c2 3 1 (natV E.gn), pts t (.cells [.pointer (some ⟨d, 0, none⟩), .pointer (some ⟨m, 0, none⟩), .int .i64 (-1)].toArray 68), dk d E.D, Kc]) (fun x => x ≤ E.tk.length) (fun x => E.tk.length - x) (0) ?_ ⟨lk0.trans (by first | with_reducible rfl | (congr 1; omega) | (simp; done) | (simp [*]; done)), trivial⟩ ⟨(lk1 rfl), (lk2 rfl), (lk8 rfl), (lk9 rfl), (lk10 rfl), (lk11 rfl), (lk12 rfl), trivial⟩ (fun _ => Stars.sel (by repeat constructor)) ?_
 exact Nat.zero_le _
 intro x ρ hp
 simp only [cA, nA]
 refine J.sr <| JL.rd (Rd.lss (t0 rfl) (t1 rfl)) <| JL.ns <| J.condD (t0 rfl) ?_ ?_
 intro hc4
 obtain ⟨bb, hbx⟩ : ∃ bb, E.tk[x]? = some bb := ⟨_, List.getElem?_eq_getElem (by omega)⟩
 have hx : (natV E.tk)[(x : Int).toNat]? = some [.int .i64 (bb : Int)] := by simp [natV, hbx]
 have hbb := hbt bb (by rw [hA1]; exact List.mem_of_getElem? hbx)
 refine J.skip <| At.next <| J.seq <| J.block <| J.sr <| JL.rd (Rd.sIdx Tryz.runUnderlying34 Tryz.sizeOf3 (t3 rfl) (t1 rfl) (Src.i (by repeat constructor)) (by first | (simp; done) | (simp; omega) | omega | (simp [*]; done) | (simp [*]; omega)) (by omega) (by omega)) ?_
 refine JL.rd (Rd.sLd Tryz.isAgg3 (t0 rfl) (Src.i (by repeat constructor)) hx rfl) ?_
 refine JL.as (t0 rfl) <| JL.n2 <| J.region <| JL.mv (t11 rfl) <| JL.rd (Rd.nil (t0 rfl)) <| JL.rd ((by first | exact Rd.fld0 fld_68_1 (t0 rfl) | exact Rd.fld fld_68_1 (t0 rfl))) ?_
 refine JL.rd (Rd.ldN Tryz.isAgg25 (t0 rfl) (by repeat constructor) (by repeat constructor)) ?_
 refine JL.mv (t4 rfl) <| JL.ef (Ef.call (.cons (t1 rfl) (.cons (t0 rfl) .nil)) (give_any m f (giveL f E.s (E.tk.take x)) (bb : Int) (by omega) (by omega)) (by repeat constructor) ?_)
 rintro - -
 simp only [cA, nA]
 refine JL.nil <| At.blkN <| At.next <| J.region <| JL.rd (Rd.add (t10 rfl) Ev.c (w64 (by omega) (by omega))) ?_
 refine JL.mv (t0 rfl) <| JL.nil ?_
 rw [← giveL_snoc, ← take_step hbx]
 refine At.again (x + 1) ?_ ?_ ⟨lk0.trans (by first | with_reducible rfl | (congr 1; omega) | (simp; done) | (simp [*]; done)), trivial⟩ ⟨(lk13 rfl), (lk14 rfl), (lk15 rfl), (lk16 rfl), (lk17 rfl), (lk18 rfl), (lk19 rfl), trivial⟩ (fun _ => Stars.sel (by repeat constructor))
 omega
 omega
 intro hc4
 obtain rfl : x = E.tk.length := by omega
 rw [List.take_length]
 exact J.exit <| At.nextX <| At.loopX <| At.blkX <| At.next <| J.sr <| JL.mv (t4 rfl) <| JL.as (t0 rfl) <| JL.nr <| At.nextR <| At.ret (()) (trivial) (ResV.one rfl (t0 rfl)) (by first | (rw [hA2]; done) | (rw [hA2]; rfl)) (fun _ q => by first | (have e1 : apS f (applyT f key mk (none : Rt) D s) = giveL f E.s E.tk := (by unfold apS; rw [if_neg (by rw [hA2]; exact hne), hA1]); have e2 : apR (applyT f key mk (none : Rt) D s) (none : Rt) = (none : Rt) := (by unfold apR; rw [if_neg (by rw [hA2]; exact hne)]); rw [e1, e2, hA1]; exact Stars.sel (by repeat constructor) q) | (have e1 : apS f (applyT f key mk (none : Rt) D s) = giveL f E.s E.gn := (by unfold apS; rw [if_pos hA2, hA1]); have e2 : apR (applyT f key mk (none : Rt) D s) (none : Rt) = g.2.2 := (by unfold apR; rw [if_pos hA2, hAg]); rw [e1, e2, hA1]; exact Stars.sel (by repeat constructor) q))
 intro hc3
 refine J.skip <| At.next <| J.seq <| J.seq ?_
 have hg0 : g.2.1 = 0 := by
   by_cases h9 : g.2.1 = 0
   · exact h9
   · exact absurd h9 (by assumption)
 rw [if_pos hg0]
 have hgv := hgv (by rw [hAg]; exact hg0)
 have hgn0 : r.1.gn.length ≤ 65 := by first | (simp only [List.length_nil] at o2; omega) | (rw [hr]; exact Nat.zero_le _)
 rw [← gk2] at hgn0
 obtain ⟨E, hEE⟩ : ∃ E, E = g.1 := ⟨_, rfl⟩
 rw [← hEE]
 rw [← hEE] at hgn0
 have hA1 : (applyT f key mk (none : Rt) D s).1 = E := by rw [hAg, hEE]
 have hA2 : (applyT f key mk (none : Rt) D s).2.1 = 0 := by rw [hAg]; exact hg0
 rw [hA1] at hgv
 refine J.openT (by repeat constructor) chA_open ?_
 rintro ⟨⟨a1, c1⟩, a2, c2⟩ -
 dsimp only
 simp only [cA, nA]
 refine J.region <| JL.mv (t4 rfl) <| JL.rd (Rd.nil (t0 rfl)) <| JL.rd ((by first | exact Rd.fld0 fld_131_2 (t0 rfl) | exact Rd.fld fld_131_2 (t0 rfl))) ?_
 refine JL.rd (Rd.ldN Tryz.isAgg34 (t0 rfl) (by repeat constructor) (by repeat constructor)) ?_
 refine JL.rd (Rd.len Tryz.runUnderlying34 (t0 rfl)) <| JL.mv Ev.c <| JL.nb <| J.loop (X := Nat) (fun (x : Nat) => [(69, .int .i64 (x : Int))]) (K := [(68, _), (67, _), (10, _), (6, _), (0, _)]) (fun x => [bm m f (giveL f E.s (E.gn.take x)), pts b1 (.cells [.pointer (some ⟨t, 0, none⟩), .slice a1 E.tk.length c1, .slice a2 E.gn.length c2].toArray 131), row a1 c1 3 1 (natV E.tk), row a2 c2 3 1 (natV E.gn), pts t (.cells [.pointer (some ⟨d, 0, none⟩), .pointer (some ⟨m, 0, none⟩), .int .i64 (-1)].toArray 68), dk d E.D, Kc]) (fun x => x ≤ E.gn.length) (fun x => E.gn.length - x) (0) ?_ ⟨lk0.trans (by first | with_reducible rfl | (congr 1; omega) | (simp; done) | (simp [*]; done)), trivial⟩ ⟨(lk1 rfl), (lk2 rfl), (lk9 rfl), (lk11 rfl), (lk12 rfl), trivial⟩ (fun _ => Stars.sel (by repeat constructor)) ?_
 exact Nat.zero_le _
 intro x ρ hp
 simp only [cA, nA]
 refine J.sr <| JL.rd (Rd.lss (t0 rfl) (t1 rfl)) <| JL.ns <| J.condD (t0 rfl) ?_ ?_
 intro hc5
 obtain ⟨bb, hbx⟩ : ∃ bb, E.gn[x]? = some bb := ⟨_, List.getElem?_eq_getElem (by omega)⟩
 have hx : (natV E.gn)[(x : Int).toNat]? = some [.int .i64 (bb : Int)] := by simp [natV, hbx]
 have hbb := hbd hA2 bb (by rw [hA1]; exact List.mem_of_getElem? hbx)
 have hgc := hgv.at hbx
 refine J.skip <| At.next <| J.seq <| J.block <| J.sr <| JL.rd (Rd.sIdx Tryz.runUnderlying34 Tryz.sizeOf3 (t3 rfl) (t1 rfl) (Src.i (by repeat constructor)) (by first | (simp; done) | (simp; omega) | omega | (simp [*]; done) | (simp [*]; omega)) (by omega) (by omega)) ?_
 refine JL.rd (Rd.sLd Tryz.isAgg3 (t0 rfl) (Src.i (by repeat constructor)) hx rfl) ?_
 refine JL.as (t0 rfl) <| JL.n4 <| JL.mv (t9 rfl) <| JL.rd (Rd.nil (t0 rfl)) <| JL.rd ((by first | exact Rd.fld0 fld_68_1 (t0 rfl) | exact Rd.fld fld_68_1 (t0 rfl))) ?_
 refine JL.rd (Rd.ldN Tryz.isAgg25 (t0 rfl) (by repeat constructor) (by repeat constructor)) ?_
 refine JL.mv (t4 rfl) <| JL.ef (Ef.call (.cons (t1 rfl) (.cons (t0 rfl) .nil)) (give_any m f (giveL f E.s (E.gn.take x)) (bb : Int) (by omega) (by omega)) (by repeat constructor) ?_)
 rintro - -
 simp only [cA, nA]
 refine JL.as (t0 rfl) <| JL.n4 <| JL.mv (t0 rfl) <| JL.rd (Rd.neq (t0 rfl) Ev.c) <| JL.n2 <| J.condD (t0 rfl) ?_ ?_
 intro hc6
 exact absurd hgc (by assumption)
 intro hc6
 refine J.skip <| At.blkN <| At.next <| J.region <| JL.rd (Rd.add (t13 rfl) Ev.c (w64 (by omega) (by omega))) ?_
 refine JL.mv (t0 rfl) <| JL.nil ?_
 rw [← giveL_snoc, ← take_step hbx]
 refine At.again (x + 1) ?_ ?_ ⟨lk0.trans (by first | with_reducible rfl | (congr 1; omega) | (simp; done) | (simp [*]; done)), trivial⟩ ⟨(lk16 rfl), (lk17 rfl), (lk18 rfl), (lk19 rfl), (lk20 rfl), trivial⟩ (fun _ => Stars.sel (by repeat constructor))
 omega
 omega
 intro hc5
 obtain rfl : x = E.gn.length := by omega
 rw [List.take_length]
 refine J.exit <| At.nextX <| At.loopX <| At.blkX <| At.next <| J.sr <| JL.mv (t6 rfl) <| JL.mv (t5 rfl) <| JL.rd (Rd.nil (t1 rfl)) <| JL.rd ((by first | exact Rd.fld0 fld_68_2 (t0 rfl) | exact Rd.fld fld_68_2 (t0 rfl))) ?_
 refine JL.ef0 (Ef.st Tryz.sizeOf3 (t0 rfl) (t2 rfl) rfl (by repeat constructor) (by repeat constructor) (by repeat constructor) (by first | rfl | simp) ?_)
 exact JL.n4 <| JL.as Ev.c <| JL.nr <| At.ret (()) (trivial) (ResV.one rfl (t0 rfl)) (by first | (rw [hA2]; done) | (rw [hA2]; rfl)) (fun _ q => by first | (have e1 : apS f (applyT f key mk (none : Rt) D s) = giveL f E.s E.tk := (by unfold apS; rw [if_neg (by rw [hA2]; exact hne), hA1]); have e2 : apR (applyT f key mk (none : Rt) D s) (none : Rt) = (none : Rt) := (by unfold apR; rw [if_neg (by rw [hA2]; exact hne)]); rw [e1, e2, hA1]; exact Stars.sel (by repeat constructor) q) | (have e1 : apS f (applyT f key mk (none : Rt) D s) = giveL f E.s E.gn := (by unfold apS; rw [if_pos hA2, hA1]); have e2 : apR (applyT f key mk (none : Rt) D s) (none : Rt) = g.2.2 := (by unfold apR; rw [if_pos hA2, hAg]); rw [e1, e2, hA1]; exact Stars.sel (by repeat constructor) q))

set_option maxHeartbeats 1000000 in
theorem apply_some (t d m f : Nat) (hf : f ≤ 1073741824) (key : Bs) (mk : List It) (hmk : ∀ e ∈ mk, itOk e) (hmk1 : mk.length ≤ 1) (gf : Nat) (caps : List Value) (Kc : Assn) (Qp : List It → Prop) (hE : ∀ (a : Option Addr) (cap : Nat) (l : List It), sorted l → l.length ≤ cap → l.length ≤ 10000 → Qp l → Fn Tryz.prog gf (.slice a l.length cap :: caps) [rowR a 2 (l.map itc), Kc] (X := Option Addr × Nat) (fun x => (edS mk key l).length ≤ x.2) (fun x => .slice x.1 (edS mk key l).length x.2) (fun x => [rowR x.1 2 ((edS mk key l).map itc), Kc])) (D : Dk) (s : Bs) (h : Nat) (hh : h ≤ 32) (tr : Tr h) (b : Nat) (hH : Hd f D s h tr b) (hQ : Qp (leafAt key h tr)) (hok : StOk ⟨D, s, [], []⟩) (hgv : (applyT f key mk (some ⟨h, b, tr⟩ : Rt) D s).2.1 = 0 → GiveOk f (applyT f key mk (some ⟨h, b, tr⟩ : Rt) D s).1.s (applyT f key mk (some ⟨h, b, tr⟩ : Rt) D s).1.gn) (hbt : ∀ bq ∈ (applyT f key mk (some ⟨h, b, tr⟩ : Rt) D s).1.tk, bq ≤ 1099511627776) (hbd : (applyT f key mk (some ⟨h, b, tr⟩ : Rt) D s).2.1 = 0 → ∀ bq ∈ (applyT f key mk (some ⟨h, b, tr⟩ : Rt) D s).1.gn, bq ≤ 1099511627776) :
    Fn Tryz.prog 33 [.pointer (some ⟨t, 0, none⟩), str key, .func (.func gf) #[] caps.toArray] [pts t (.cells [.pointer (some ⟨d, 0, none⟩), .pointer (some ⟨m, 0, none⟩), .int .i64 (b : Int)].toArray 68), dk d D, bm m f s, Kc] (X := Unit) (fun _ => True) (fun _ => .int .i64 (applyT f key mk (some ⟨h, b, tr⟩ : Rt) D s).2.1) (fun _ => [pts t (.cells [.pointer (some ⟨d, 0, none⟩), .pointer (some ⟨m, 0, none⟩), .int .i64 (rootI (apR (applyT f key mk (some ⟨h, b, tr⟩ : Rt) D s) (some ⟨h, b, tr⟩ : Rt)))].toArray 68), dk d (applyT f key mk (some ⟨h, b, tr⟩ : Rt) D s).1.D, bm m f (apS f (applyT f key mk (some ⟨h, b, tr⟩ : Rt) D s)), Kc]) := by
 refine Fn.mk' (n := 87) (l := [(0, .pointer (some ⟨t, 0, none⟩)), (1, str key), (2, .func (.func gf) #[] caps.toArray)]) (fn := Tryz.f33) Tryz.func33 (by kernel_rfl) rfl rfl (by simp) rfl ?_
 intro h0 w0
 obtain ⟨o1, o2, o3, o4⟩ := replT_ok (key := key) hf hmk hmk1 h tr b (⟨D, s, [], []⟩ : BSt) hH hok
 obtain ⟨r, hr⟩ : ∃ r : BSt × Int × List (Tr h), r = (replT f key mk h tr b (⟨D, s, [], []⟩ : BSt)) := ⟨_, rfl⟩
 rw [← hr] at o1 o2 o3 o4
 have hr8 : r.2.2.length ≤ 8000 := by omega
 have hTs : TsG r.2.2 := o3
 have hokr : StOk r.1 := o1.ok hok
 refine J.sr <| JL.as Ev.c <| JL.n4 <| JL.mv (t1 rfl) <| JL.rd (Rd.buildS (.cons (t0 rfl) .nil) bld_131 (by repeat (first | exact FillN.nil | apply FillN.one rfl rfl (by repeat constructor)))) ?_
 refine JL.ef (Ef.box (t0 rfl) rfl ?_)
 intro b1
 refine JL.as (t0 rfl) <| JL.ns <| J.weak (fun _ q => chA_shut (c := b1) (t := t) (tk := []) (gn := []) (a1 := none) (a2 := none) (c1 := 0) (c2 := 0) (Stars.sel (pre := [pts b1 (.cells [.pointer (some ⟨t, 0, none⟩), .slice none 0 0, .slice none 0 0].toArray 131), row none 0 3 1 [], row none 0 3 1 [], pts t (.cells [.pointer (some ⟨d, 0, none⟩), .pointer (some ⟨m, 0, none⟩), .int .i64 (b : Int)].toArray 68), dk d D, bm m f s, Kc]) (by repeat constructor) (row_nil 3 1 (row_nil 3 1 q)))) ?_
 refine J.region <| JL.as Ev.c <| JL.n4 <| JL.as Ev.c <| JL.n5 <| JL.mv (t7 rfl) <| JL.rd (Rd.nil (t0 rfl)) <| JL.rd ((by first | exact Rd.fld0 fld_68_2 (t0 rfl) | exact Rd.fld fld_68_2 (t0 rfl))) ?_
 refine JL.rd (Rd.ldN Tryz.isAgg3 (t0 rfl) (by repeat constructor) (by repeat constructor)) ?_
 refine JL.rd (Rd.eql (t0 rfl) Ev.c) <| JL.n2 <| J.condDF (t0 rfl) (by omega) ?_
 refine J.region <| JL.mv (t7 rfl) <| JL.mv (t13 rfl) <| JL.rd (Rd.nil (t0 rfl)) <| JL.rd ((by first | exact Rd.fld0 fld_68_2 (t0 rfl) | exact Rd.fld fld_68_2 (t0 rfl))) ?_
 refine JL.rd (Rd.ldN Tryz.isAgg3 (t0 rfl) (by repeat constructor) (by repeat constructor)) ?_
 refine JL.mv (t18 rfl) <| JL.mv (t20 rfl) <| JL.ef (Ef.call (.cons (t6 rfl) (.cons (t2 rfl) (.cons (t1 rfl) (.cons (t0 rfl) .nil)))) (repl_any b1 t d m f (b : Int) hf key mk hmk hmk1 gf caps Kc Qp hE h hh tr b (⟨D, s, [], []⟩ : BSt) hH hok (by show 0 + 2 * h + 2 ≤ _; omega) hQ) (by repeat constructor) ?_)
 rintro ⟨la, lc, ys⟩ hys
 rw [← hr] at hys
 rw [← hr]
 dsimp only at hys
 simp only [cA, nA]
 refine JL.mv (t0 rfl) <| JL.e (t0 rfl) <| JL.e (t1 rfl) <| JL.as (t1 rfl) <| JL.as (t1 rfl) <| JL.n4 <| JL.as Ev.c <| JL.ns <| J.seq <| J.live (K := [(10, _), (9, _), (8, _), (7, _), (6, _), (0, _)]) ⟨lk0, (lk1 rfl), (lk2 rfl), (lk21 rfl), (lk25 rfl), (lk26 rfl), trivial⟩ ?_
 intro ρ2
 refine J.region <| JL.mv (t1 rfl) <| JL.rd (Rd.eql (t0 rfl) Ev.c) <| JL.n2 <| J.condD (t0 rfl) ?_ ?_
 intro hc3
 have hr0 : r.2.1 = 0 := by simpa using hc3
 refine J.region <| JL.mv (t5 rfl) <| JL.mv (t5 rfl) <| JL.ef (Ef.call (.cons (t1 rfl) (.cons (t0 rfl) .nil)) (grow_any b1 t d m f (b : Int) hf r.2.2.length h r.2.2 r.1 la lc ys hys hTs hokr (Nat.le_refl _) hr8) (by repeat constructor) ?_)
 rintro - -
 obtain ⟨g, hg⟩ : ∃ g, g = growT f r.2.2.length h r.2.2 r.1 := ⟨_, rfl⟩
 obtain ⟨gk1, gk2⟩ := growT_ok hf r.2.2.length h r.2.2 r.1 hTs hokr
 rw [← hg] at gk1 gk2
 have hgt := (gk1.ok hokr).few
 rw [← hg]
 have hAg : (applyT f key mk (some ⟨h, b, tr⟩ : Rt) D s) = g := by rw [hg, hr]; show finT f h (replT f key mk h tr b (⟨D, s, [], []⟩ : BSt)) = _; exact if_neg (by first | exact fun h => h rfl | (rw [← hr, hr0]; decide))
 simp only [cA, nA]
 refine JL.mv (t0 rfl) <| JL.e (t0 rfl) <| JL.e (t1 rfl) <| JL.as (t1 rfl) <| JL.as (t1 rfl) <| JL.n5 <| JL.mv (t0 rfl) <| JL.rd (Rd.neq (t0 rfl) Ev.c) <| JL.n2 <| J.condD (t0 rfl) ?_ ?_
 intro hc4
 refine J.seq <| J.seq ?_
 obtain ⟨E, hEE⟩ : ∃ E, E = g.1 := ⟨_, rfl⟩
 have hgt2 : g.1.tk.length ≤ 65536 := by first | exact hgt | exact hokr.few
 rw [← hEE]
 rw [← hEE] at hgt2
 have hA1 : (applyT f key mk (some ⟨h, b, tr⟩ : Rt) D s).1 = E := by rw [hAg, hEE]
 have hA2 : (applyT f key mk (some ⟨h, b, tr⟩ : Rt) D s).2.1 = g.2.1 := by rw [hAg]
 have hne : g.2.1 ≠ 0 := by assumption
 refine J.openT (by repeat constructor) chA_open ?_
 rintro ⟨⟨a1, c1⟩, a2, c2⟩ -
 dsimp only
 simp only [cA, nA]
 refine J.region <| JL.mv (t15 rfl) <| JL.rd (Rd.nil (t0 rfl)) <| JL.rd ((by first | exact Rd.fld0 fld_131_1 (t0 rfl) | exact Rd.fld fld_131_1 (t0 rfl))) ?_
 refine JL.rd (Rd.ldN Tryz.isAgg34 (t0 rfl) (by repeat constructor) (by repeat constructor)) ?_
 refine JL.rd (Rd.len Tryz.runUnderlying34 (t0 rfl)) <| JL.mv Ev.c <| JL.nb <| J.loop (X := Nat) (fun (x : Nat) => [(52, .int .i64 (x : Int))]) (K := [(51, _), (50, _), (9, _), (10, _), (7, _), (6, _), (0, _)]) (fun x => [bm m f (giveL f E.s (E.tk.take x)), pts b1 (.cells [.pointer (some ⟨t, 0, none⟩), .slice a1 E.tk.length c1, .slice a2 E.gn.length c2].toArray 131), row a1 c1 3 1 (natV E.tk), row a2 c2 3 1 (natV E.gn), pts t (.cells [.pointer (some ⟨d, 0, none⟩), .pointer (some ⟨m, 0, none⟩), .int .i64 (b : Int)].toArray 68), dk d E.D, Kc]) (fun x => x ≤ E.tk.length) (fun x => E.tk.length - x) (0) ?_ ⟨lk0.trans (by first | with_reducible rfl | (congr 1; omega) | (simp; done) | (simp [*]; done)), trivial⟩ ⟨(lk1 rfl), (lk2 rfl), (lk8 rfl), (lk9 rfl), (lk21 rfl), (lk22 rfl), (lk23 rfl), trivial⟩ (fun _ => Stars.sel (by repeat constructor)) ?_
 exact Nat.zero_le _
 intro x ρ hp
 simp only [cA, nA]
 refine J.sr <| JL.rd (Rd.lss (t0 rfl) (t1 rfl)) <| JL.ns <| J.condD (t0 rfl) ?_ ?_
 intro hc5
 obtain ⟨bb, hbx⟩ : ∃ bb, E.tk[x]? = some bb := ⟨_, List.getElem?_eq_getElem (by omega)⟩
 have hx : (natV E.tk)[(x : Int).toNat]? = some [.int .i64 (bb : Int)] := by simp [natV, hbx]
 have hbb := hbt bb (by rw [hA1]; exact List.mem_of_getElem? hbx)
 refine J.skip <| At.next <| J.seq <| J.block <| J.sr <| JL.rd (Rd.sIdx Tryz.runUnderlying34 Tryz.sizeOf3 (t3 rfl) (t1 rfl) (Src.i (by repeat constructor)) (by first | (simp; done) | (simp; omega) | omega | (simp [*]; done) | (simp [*]; omega)) (by omega) (by omega)) ?_
 refine JL.rd (Rd.sLd Tryz.isAgg3 (t0 rfl) (Src.i (by repeat constructor)) hx rfl) ?_
 refine JL.as (t0 rfl) <| JL.n2 <| J.region <| JL.mv (t11 rfl) <| JL.rd (Rd.nil (t0 rfl)) <| JL.rd ((by first | exact Rd.fld0 fld_68_1 (t0 rfl) | exact Rd.fld fld_68_1 (t0 rfl))) ?_
 refine JL.rd (Rd.ldN Tryz.isAgg25 (t0 rfl) (by repeat constructor) (by repeat constructor)) ?_
 refine JL.mv (t4 rfl) <| JL.ef (Ef.call (.cons (t1 rfl) (.cons (t0 rfl) .nil)) (give_any m f (giveL f E.s (E.tk.take x)) (bb : Int) (by omega) (by omega)) (by repeat constructor) ?_)
 rintro - -
 simp only [cA, nA]
 refine JL.nil <| At.blkN <| At.next <| J.region <| JL.rd (Rd.add (t10 rfl) Ev.c (w64 (by omega) (by omega))) ?_
 refine JL.mv (t0 rfl) <| JL.nil ?_
 rw [← giveL_snoc, ← take_step hbx]
 refine At.again (x + 1) ?_ ?_ ⟨lk0.trans (by first | with_reducible rfl | (congr 1; omega) | (simp; done) | (simp [*]; done)), trivial⟩ ⟨(lk13 rfl), (lk14 rfl), (lk15 rfl), (lk16 rfl), (lk17 rfl), (lk18 rfl), (lk19 rfl), trivial⟩ (fun _ => Stars.sel (by repeat constructor))
 omega
 omega
 intro hc5
 obtain rfl : x = E.tk.length := by omega
 rw [List.take_length]
 exact J.exit <| At.nextX <| At.loopX <| At.blkX <| At.next <| J.sr <| JL.mv (t4 rfl) <| JL.as (t0 rfl) <| JL.nr <| At.nextR <| At.ret (()) (trivial) (ResV.one rfl (t0 rfl)) (by first | (rw [hA2]; done) | (rw [hA2]; rfl)) (fun _ q => by first | (have e1 : apS f (applyT f key mk (some ⟨h, b, tr⟩ : Rt) D s) = giveL f E.s E.tk := (by unfold apS; rw [if_neg (by rw [hA2]; exact hne), hA1]); have e2 : apR (applyT f key mk (some ⟨h, b, tr⟩ : Rt) D s) (some ⟨h, b, tr⟩ : Rt) = (some ⟨h, b, tr⟩ : Rt) := (by unfold apR; rw [if_neg (by rw [hA2]; exact hne)]); rw [e1, e2, hA1]; exact Stars.sel (by repeat constructor) q) | (have e1 : apS f (applyT f key mk (some ⟨h, b, tr⟩ : Rt) D s) = giveL f E.s E.gn := (by unfold apS; rw [if_pos hA2, hA1]); have e2 : apR (applyT f key mk (some ⟨h, b, tr⟩ : Rt) D s) (some ⟨h, b, tr⟩ : Rt) = g.2.2 := (by unfold apR; rw [if_pos hA2, hAg]); rw [e1, e2, hA1]; exact Stars.sel (by repeat constructor) q))
 intro hc4
 refine J.skip <| At.next <| J.seq <| J.seq ?_
 have hg0 : g.2.1 = 0 := by
   by_cases h9 : g.2.1 = 0
   · exact h9
   · exact absurd h9 (by assumption)
 rw [if_pos hg0]
 have hgv := hgv (by rw [hAg]; exact hg0)
 have hgn0 : r.1.gn.length ≤ 65 := by first | (simp only [List.length_nil] at o2; omega) | (rw [hr]; exact Nat.zero_le _)
 rw [← gk2] at hgn0
 obtain ⟨E, hEE⟩ : ∃ E, E = g.1 := ⟨_, rfl⟩
 rw [← hEE]
 rw [← hEE] at hgn0
 have hA1 : (applyT f key mk (some ⟨h, b, tr⟩ : Rt) D s).1 = E := by rw [hAg, hEE]
 have hA2 : (applyT f key mk (some ⟨h, b, tr⟩ : Rt) D s).2.1 = 0 := by rw [hAg]; exact hg0
 rw [hA1] at hgv
 refine J.openT (by repeat constructor) chA_open ?_
 rintro ⟨⟨a1, c1⟩, a2, c2⟩ -
 dsimp only
 simp only [cA, nA]
 refine J.region <| JL.mv (t15 rfl) <| JL.rd (Rd.nil (t0 rfl)) <| JL.rd ((by first | exact Rd.fld0 fld_131_2 (t0 rfl) | exact Rd.fld fld_131_2 (t0 rfl))) ?_
 refine JL.rd (Rd.ldN Tryz.isAgg34 (t0 rfl) (by repeat constructor) (by repeat constructor)) ?_
 refine JL.rd (Rd.len Tryz.runUnderlying34 (t0 rfl)) <| JL.mv Ev.c <| JL.nb <| J.loop (X := Nat) (fun (x : Nat) => [(69, .int .i64 (x : Int))]) (K := [(68, _), (67, _), (10, _), (6, _), (0, _)]) (fun x => [bm m f (giveL f E.s (E.gn.take x)), pts b1 (.cells [.pointer (some ⟨t, 0, none⟩), .slice a1 E.tk.length c1, .slice a2 E.gn.length c2].toArray 131), row a1 c1 3 1 (natV E.tk), row a2 c2 3 1 (natV E.gn), pts t (.cells [.pointer (some ⟨d, 0, none⟩), .pointer (some ⟨m, 0, none⟩), .int .i64 (b : Int)].toArray 68), dk d E.D, Kc]) (fun x => x ≤ E.gn.length) (fun x => E.gn.length - x) (0) ?_ ⟨lk0.trans (by first | with_reducible rfl | (congr 1; omega) | (simp; done) | (simp [*]; done)), trivial⟩ ⟨(lk1 rfl), (lk2 rfl), (lk9 rfl), (lk22 rfl), (lk23 rfl), trivial⟩ (fun _ => Stars.sel (by repeat constructor)) ?_
 exact Nat.zero_le _
 intro x ρ hp
 simp only [cA, nA]
 refine J.sr <| JL.rd (Rd.lss (t0 rfl) (t1 rfl)) <| JL.ns <| J.condD (t0 rfl) ?_ ?_
 intro hc6
 obtain ⟨bb, hbx⟩ : ∃ bb, E.gn[x]? = some bb := ⟨_, List.getElem?_eq_getElem (by omega)⟩
 have hx : (natV E.gn)[(x : Int).toNat]? = some [.int .i64 (bb : Int)] := by simp [natV, hbx]
 have hbb := hbd hA2 bb (by rw [hA1]; exact List.mem_of_getElem? hbx)
 have hgc := hgv.at hbx
 refine J.skip <| At.next <| J.seq <| J.block <| J.sr <| JL.rd (Rd.sIdx Tryz.runUnderlying34 Tryz.sizeOf3 (t3 rfl) (t1 rfl) (Src.i (by repeat constructor)) (by first | (simp; done) | (simp; omega) | omega | (simp [*]; done) | (simp [*]; omega)) (by omega) (by omega)) ?_
 refine JL.rd (Rd.sLd Tryz.isAgg3 (t0 rfl) (Src.i (by repeat constructor)) hx rfl) ?_
 refine JL.as (t0 rfl) <| JL.n4 <| JL.mv (t9 rfl) <| JL.rd (Rd.nil (t0 rfl)) <| JL.rd ((by first | exact Rd.fld0 fld_68_1 (t0 rfl) | exact Rd.fld fld_68_1 (t0 rfl))) ?_
 refine JL.rd (Rd.ldN Tryz.isAgg25 (t0 rfl) (by repeat constructor) (by repeat constructor)) ?_
 refine JL.mv (t4 rfl) <| JL.ef (Ef.call (.cons (t1 rfl) (.cons (t0 rfl) .nil)) (give_any m f (giveL f E.s (E.gn.take x)) (bb : Int) (by omega) (by omega)) (by repeat constructor) ?_)
 rintro - -
 simp only [cA, nA]
 refine JL.as (t0 rfl) <| JL.n4 <| JL.mv (t0 rfl) <| JL.rd (Rd.neq (t0 rfl) Ev.c) <| JL.n2 <| J.condD (t0 rfl) ?_ ?_
 intro hc7
 exact absurd hgc (by assumption)
 intro hc7
 refine J.skip <| At.blkN <| At.next <| J.region <| JL.rd (Rd.add (t13 rfl) Ev.c (w64 (by omega) (by omega))) ?_
 refine JL.mv (t0 rfl) <| JL.nil ?_
 rw [← giveL_snoc, ← take_step hbx]
 refine At.again (x + 1) ?_ ?_ ⟨lk0.trans (by first | with_reducible rfl | (congr 1; omega) | (simp; done) | (simp [*]; done)), trivial⟩ ⟨(lk16 rfl), (lk17 rfl), (lk18 rfl), (lk19 rfl), (lk20 rfl), trivial⟩ (fun _ => Stars.sel (by repeat constructor))
 omega
 omega
 intro hc6
 obtain rfl : x = E.gn.length := by omega
 rw [List.take_length]
 refine J.exit <| At.nextX <| At.loopX <| At.blkX <| At.next <| J.sr <| JL.mv (t6 rfl) <| JL.mv (t5 rfl) <| JL.rd (Rd.nil (t1 rfl)) <| JL.rd ((by first | exact Rd.fld0 fld_68_2 (t0 rfl) | exact Rd.fld fld_68_2 (t0 rfl))) ?_
 refine JL.ef0 (Ef.st Tryz.sizeOf3 (t0 rfl) (t2 rfl) rfl (by repeat constructor) (by repeat constructor) (by repeat constructor) (by first | rfl | simp) ?_)
 exact JL.n4 <| JL.as Ev.c <| JL.nr <| At.ret (()) (trivial) (ResV.one rfl (t0 rfl)) (by first | (rw [hA2]; done) | (rw [hA2]; rfl)) (fun _ q => by first | (have e1 : apS f (applyT f key mk (some ⟨h, b, tr⟩ : Rt) D s) = giveL f E.s E.tk := (by unfold apS; rw [if_neg (by rw [hA2]; exact hne), hA1]); have e2 : apR (applyT f key mk (some ⟨h, b, tr⟩ : Rt) D s) (some ⟨h, b, tr⟩ : Rt) = (some ⟨h, b, tr⟩ : Rt) := (by unfold apR; rw [if_neg (by rw [hA2]; exact hne)]); rw [e1, e2, hA1]; exact Stars.sel (by repeat constructor) q) | (have e1 : apS f (applyT f key mk (some ⟨h, b, tr⟩ : Rt) D s) = giveL f E.s E.gn := (by unfold apS; rw [if_pos hA2, hA1]); have e2 : apR (applyT f key mk (some ⟨h, b, tr⟩ : Rt) D s) (some ⟨h, b, tr⟩ : Rt) = g.2.2 := (by unfold apR; rw [if_pos hA2, hAg]); rw [e1, e2, hA1]; exact Stars.sel (by repeat constructor) q))
 intro hc3
 have hr0 : r.2.1 ≠ 0 := hc3
 have hAg : (applyT f key mk (some ⟨h, b, tr⟩ : Rt) D s) = (r.1, r.2.1, none) := by show finT f h (replT f key mk h tr b (⟨D, s, [], []⟩ : BSt)) = _; rw [← hr]; exact if_pos hr0
 refine J.skip <| At.next <| J.seq <| J.sr <| JL.mv (t3 rfl) <| JL.rd (Rd.neq (t0 rfl) Ev.c) <| JL.n2 <| J.condDT (t0 rfl) (by assumption) ?_
 refine J.seq <| J.seq ?_
 obtain ⟨E, hEE⟩ : ∃ E, E = r.1 := ⟨_, rfl⟩
 have hgt2 : r.1.tk.length ≤ 65536 := by first | exact hgt | exact hokr.few
 rw [← hEE]
 rw [← hEE] at hgt2
 have hA1 : (applyT f key mk (some ⟨h, b, tr⟩ : Rt) D s).1 = E := by rw [hAg, hEE]
 have hA2 : (applyT f key mk (some ⟨h, b, tr⟩ : Rt) D s).2.1 = r.2.1 := by rw [hAg]
 have hne : r.2.1 ≠ 0 := by assumption
 refine J.openT (by repeat constructor) chA_open ?_
 rintro ⟨⟨a1, c1⟩, a2, c2⟩ -
 dsimp only
 simp only [cA, nA]
 refine J.region <| JL.mv (t7 rfl) <| JL.rd (Rd.nil (t0 rfl)) <| JL.rd ((by first | exact Rd.fld0 fld_131_1 (t0 rfl) | exact Rd.fld fld_131_1 (t0 rfl))) ?_
 refine JL.rd (Rd.ldN Tryz.isAgg34 (t0 rfl) (by repeat constructor) (by repeat constructor)) ?_
 refine JL.rd (Rd.len Tryz.runUnderlying34 (t0 rfl)) <| JL.mv Ev.c <| JL.nb <| J.loop (X := Nat) (fun (x : Nat) => [(52, .int .i64 (x : Int))]) (K := [(51, _), (50, _), (10, _), (9, _), (7, _), (6, _), (0, _)]) (fun x => [bm m f (giveL f E.s (E.tk.take x)), pts b1 (.cells [.pointer (some ⟨t, 0, none⟩), .slice a1 E.tk.length c1, .slice a2 E.gn.length c2].toArray 131), row a1 c1 3 1 (natV E.tk), row a2 c2 3 1 (natV E.gn), pts t (.cells [.pointer (some ⟨d, 0, none⟩), .pointer (some ⟨m, 0, none⟩), .int .i64 (b : Int)].toArray 68), dk d E.D, Kc]) (fun x => x ≤ E.tk.length) (fun x => E.tk.length - x) (0) ?_ ⟨lk0.trans (by first | with_reducible rfl | (congr 1; omega) | (simp; done) | (simp [*]; done)), trivial⟩ ⟨(lk1 rfl), (lk2 rfl), (lk10 rfl), (lk11 rfl), (lk13 rfl), (lk14 rfl), (lk15 rfl), trivial⟩ (fun _ => Stars.sel (by repeat constructor)) ?_
 exact Nat.zero_le _
 intro x ρ hp
 simp only [cA, nA]
 refine J.sr <| JL.rd (Rd.lss (t0 rfl) (t1 rfl)) <| JL.ns <| J.condD (t0 rfl) ?_ ?_
 intro hc8
 obtain ⟨bb, hbx⟩ : ∃ bb, E.tk[x]? = some bb := ⟨_, List.getElem?_eq_getElem (by omega)⟩
 have hx : (natV E.tk)[(x : Int).toNat]? = some [.int .i64 (bb : Int)] := by simp [natV, hbx]
 have hbb := hbt bb (by rw [hA1]; exact List.mem_of_getElem? hbx)
 refine J.skip <| At.next <| J.seq <| J.block <| J.sr <| JL.rd (Rd.sIdx Tryz.runUnderlying34 Tryz.sizeOf3 (t3 rfl) (t1 rfl) (Src.i (by repeat constructor)) (by first | (simp; done) | (simp; omega) | omega | (simp [*]; done) | (simp [*]; omega)) (by omega) (by omega)) ?_
 refine JL.rd (Rd.sLd Tryz.isAgg3 (t0 rfl) (Src.i (by repeat constructor)) hx rfl) ?_
 refine JL.as (t0 rfl) <| JL.n2 <| J.region <| JL.mv (t11 rfl) <| JL.rd (Rd.nil (t0 rfl)) <| JL.rd ((by first | exact Rd.fld0 fld_68_1 (t0 rfl) | exact Rd.fld fld_68_1 (t0 rfl))) ?_
 refine JL.rd (Rd.ldN Tryz.isAgg25 (t0 rfl) (by repeat constructor) (by repeat constructor)) ?_
 refine JL.mv (t4 rfl) <| JL.ef (Ef.call (.cons (t1 rfl) (.cons (t0 rfl) .nil)) (give_any m f (giveL f E.s (E.tk.take x)) (bb : Int) (by omega) (by omega)) (by repeat constructor) ?_)
 rintro - -
 simp only [cA, nA]
 refine JL.nil <| At.blkN <| At.next <| J.region <| JL.rd (Rd.add (t10 rfl) Ev.c (w64 (by omega) (by omega))) ?_
 refine JL.mv (t0 rfl) <| JL.nil ?_
 rw [← giveL_snoc, ← take_step hbx]
 refine At.again (x + 1) ?_ ?_ ⟨lk0.trans (by first | with_reducible rfl | (congr 1; omega) | (simp; done) | (simp [*]; done)), trivial⟩ ⟨(lk13 rfl), (lk14 rfl), (lk15 rfl), (lk16 rfl), (lk17 rfl), (lk18 rfl), (lk19 rfl), trivial⟩ (fun _ => Stars.sel (by repeat constructor))
 omega
 omega
 intro hc8
 obtain rfl : x = E.tk.length := by omega
 rw [List.take_length]
 exact J.exit <| At.nextX <| At.loopX <| At.blkX <| At.next <| J.sr <| JL.mv (t5 rfl) <| JL.as (t0 rfl) <| JL.nr <| At.nextR <| At.ret (()) (trivial) (ResV.one rfl (t0 rfl)) (by first | (rw [hA2]; done) | (rw [hA2]; rfl)) (fun _ q => by first | (have e1 : apS f (applyT f key mk (some ⟨h, b, tr⟩ : Rt) D s) = giveL f E.s E.tk := (by unfold apS; rw [if_neg (by rw [hA2]; exact hne), hA1]); have e2 : apR (applyT f key mk (some ⟨h, b, tr⟩ : Rt) D s) (some ⟨h, b, tr⟩ : Rt) = (some ⟨h, b, tr⟩ : Rt) := (by unfold apR; rw [if_neg (by rw [hA2]; exact hne)]); rw [e1, e2, hA1]; exact Stars.sel (by repeat constructor) q) | (have e1 : apS f (applyT f key mk (some ⟨h, b, tr⟩ : Rt) D s) = giveL f E.s E.gn := (by unfold apS; rw [if_pos hA2, hA1]); have e2 : apR (applyT f key mk (some ⟨h, b, tr⟩ : Rt) D s) (some ⟨h, b, tr⟩ : Rt) = g.2.2 := (by unfold apR; rw [if_pos hA2, hAg]); rw [e1, e2, hA1]; exact Stars.sel (by repeat constructor) q))
end Go.Proofs.YtbhladkbnleeoaaGreat

namespace Go.Proofs.YtbhladkbnleeoaaGreat

instance sumDec (b : Bs) : Decidable (sumOk b) := by unfold sumOk; infer_instance
/-- The error of a read of a block that holds a node, or a damaged one. -/
def rdE (D : Dk) (b : Nat) : Int := if D.down then 29 else if sumOk (D.vis b) then 0 else 27
theorem rdE_ok {D : Dk} {b : Nat} : rdE D b = 0 ↔ D.down = false ∧ sumOk (D.vis b) := by
  unfold rdE
  cases D.down
  · by_cases h : sumOk (D.vis b)
    · simp [h]
    · simp [h]
  · simp
def Hr (D : Dk) : (h : Nat) → Tr h → Nat → Prop
  | 0, l, b => b < D.n ∧ NdOk (.leaf l) ∧ (D.vis b = ndEnc (.leaf l) ∨ ¬ sumOk (D.vis b))
  | h + 1, x, b => b < D.n ∧ NdOk (nd (h + 1) x) ∧ (D.vis b = ndEnc (nd (h + 1) x) ∨ ¬ sumOk (D.vis b)) ∧ ∀ p ∈ (asK x), Hr D h p.2.2 p.2.1
theorem Hr.top {D} : ∀ {h : Nat} {t : Tr h} {b : Nat}, Hr D h t b → b < D.n ∧ NdOk (nd h t) ∧ (D.vis b = ndEnc (nd h t) ∨ ¬ sumOk (D.vis b))
  | 0, _, _, h => h
  | _ + 1, _, _, h => ⟨h.1, h.2.1, h.2.2.1⟩
theorem Hd.hr {f D s} : ∀ {h : Nat} {t : Tr h} {b : Nat}, Hd f D s h t b → Hr D h t b
  | 0, _, _, h => ⟨h.1, h.2.2.1, .inl h.2.2.2⟩
  | _ + 1, _, _, h => ⟨h.1, h.2.2.1, .inl h.2.2.2.1, fun p hp => (h.2.2.2.2 p hp).hr⟩
def lookL (l : List It) (key : Bs) : Option Bs := if hasF l key then some (l.getD (findF l key) ([], [])).2 else none
def getT (key : Bs) (D : Dk) : (h : Nat) → Tr h → Nat → Int × Option Bs
  | 0, l, b => if rdE D b ≠ 0 then (rdE D b, none) else (0, lookL l key)
  | h + 1, x, b => if rdE D b ≠ 0 then (rdE D b, none) else
    match (asK x)[childF (asK x) key]? with
    | none => (0, none)
    | some c => getT key D h c.2.2 c.2.1
theorem getT_err {key : Bs} {D : Dk} {b : Nat} (hr : rdE D b ≠ 0) : ∀ (h : Nat) (t : Tr h), getT key D h t b = (rdE D b, none)
  | 0, _ => if_pos hr
  | _ + 1, _ => if_pos hr
theorem getT_leaf {key : Bs} {D : Dk} {b : Nat} {l : Tr 0} (hr : rdE D b = 0) : getT key D 0 l b = (0, lookL l key) := if_neg (by rw [hr]; decide)
theorem getT_down {key : Bs} {D : Dk} {b h : Nat} {x : Tr (h + 1)} {c : Kt h} (hr : rdE D b = 0) (hc : (asK x)[childF (asK x) key]? = some c) : getT key D (h + 1) x b = getT key D h c.2.2 c.2.1 := by
  conv => lhs; unfold getT
  rw [if_neg (by rw [hr]; decide), hc]
/-! ### ranges -/
def inB (fr to : Bs) (e : It) : Bool := !slt e.1 fr && (decide (to = []) || slt e.1 to)
def colS (fr to : Bs) (most : Nat) (o : List It) (e : It) : List It := if inB fr to e = true ∧ o.length < most then o ++ [e] else o
def colL (fr to : Bs) (most : Nat) (l : List It) (o : List It) : List It := l.foldl (colS fr to most) o
def colX (to : Bs) (most i : Nat) (k : Bs) (o : List It) : Prop := most ≤ o.length ∨ (0 < i ∧ to ≠ [] ∧ slt k to = false)
instance colXdec (to : Bs) (most i : Nat) (k : Bs) (o : List It) : Decidable (colX to most i k o) := by unfold colX; infer_instance
def colK {α : Type} (g : α → List It → List It) (ky : α → Bs) (to : Bs) (most : Nat) : Nat → List α → List It → List It
  | _, [], o => o
  | i, p :: l, o => if colX to most i (ky p) o then o else colK g ky to most (i + 1) l (g p o)
def collT (fr to : Bs) (most : Nat) : (h : Nat) → Tr h → List It → List It
  | 0, l, o => colL fr to most l o
  | h + 1, x, o => colK (fun p o => collT fr to most h p.2.2 o) (fun p => p.1) to most (childF (asK x) fr) ((asK x).drop (childF (asK x) fr)) o
theorem colS_le {fr to : Bs} {most : Nat} {o : List It} {e : It} : (colS fr to most o e).length ≤ o.length + 1 := by
  unfold colS
  split
  · rw [List.length_append]; exact Nat.le_refl _
  · omega
theorem colL_step {fr to : Bs} {most : Nat} {l : List It} {x : Nat} {p : It} {o : List It} (h : l[x]? = some p) : colL fr to most (l.take (x + 1)) o = colS fr to most (colL fr to most (l.take x) o) p := by
  have h1 := List.getElem?_eq_some_iff.1 h
  rw [List.take_succ_eq_append_getElem h1.1, h1.2]
  simp [colL]
theorem colL_le {fr to : Bs} {most : Nat} : ∀ (l o : List It), (colL fr to most l o).length ≤ o.length + l.length := by
  intro l
  induction l with
  | nil => intro o; exact Nat.le_refl _
  | cons e l ih =>
    intro o
    have h1 := ih (colS fr to most o e)
    have h2 := colS_le (fr := fr) (to := to) (most := most) (o := o) (e := e)
    show (colL fr to most l (colS fr to most o e)).length ≤ _
    rw [List.length_cons]
    omega
theorem colK_le {α : Type} {g : α → List It → List It} {ky : α → Bs} {to : Bs} {most : Nat} {sz : α → Nat} (hg : ∀ p o, (g p o).length ≤ o.length + sz p) : ∀ (l : List α) (i : Nat) (o : List It), (colK g ky to most i l o).length ≤ o.length + (l.map sz).sum := by
  intro l
  induction l with
  | nil => intro i o; exact Nat.le_refl _
  | cons p l ih =>
    intro i o
    unfold colK
    split
    · exact Nat.le_add_right _ _
    · have h1 := ih (i + 1) (g p o)
      have h2 := hg p o
      rw [List.map_cons, List.sum_cons]
      omega
theorem colK_stop {α : Type} {g : α → List It → List It} {ky : α → Bs} {to : Bs} {most i : Nat} {p : α} {l : List α} {o : List It} (h : colX to most i (ky p) o) : colK g ky to most i (p :: l) o = o := if_pos h
theorem colK_go {α : Type} {g : α → List It → List It} {ky : α → Bs} {to : Bs} {most i : Nat} {p : α} {l : List α} {o : List It} (h : ¬ colX to most i (ky p) o) : colK g ky to most i (p :: l) o = colK g ky to most (i + 1) l (g p o) := if_neg h
theorem ent_sum {h : Nat} (x : Tr (h + 1)) : (ent (h + 1) x).length = ((asK x).map fun p => (ent h p.2.2).length).sum := by
  show ((asK x).flatMap fun p => ent h p.2.2).length = _
  rw [List.length_flatMap]
theorem sum_drop (l : List Nat) (i : Nat) : (l.drop i).sum ≤ l.sum := by
  have h : l = l.take i ++ l.drop i := (List.take_append_drop i l).symm
  have h2 : l.sum = (l.take i).sum + (l.drop i).sum := by
    conv => lhs; rw [h, List.sum_append]
  omega
theorem collT_le {fr to : Bs} {most : Nat} : ∀ (h : Nat) (u : Tr h) (o : List It), (collT fr to most h u o).length ≤ o.length + (ent h u).length := by
  intro h
  induction h with
  | zero => intro u o; exact colL_le u o
  | succ h ih =>
    intro u o
    have h1 := colK_le (g := fun (p : Kt h) o => collT fr to most h p.2.2 o) (ky := fun p => p.1) (to := to) (most := most) (sz := fun p => (ent h p.2.2).length) (fun p o => ih p.2.2 o) ((asK u).drop (childF (asK u) fr)) (childF (asK u) fr) o
    have h2 := sum_drop ((asK u).map fun p => (ent h p.2.2).length) (childF (asK u) fr)
    rw [← List.map_drop] at h2
    rw [ent_sum]
    exact Nat.le_trans h1 (by omega)
theorem Hd.rd0 {f D s h} {u : Tr h} {b : Nat} (hH : Hd f D s h u b) (hd : D.down = false) : rdE D b = 0 := by
  obtain ⟨_, _, hn, hv⟩ := hH.top
  exact rdE_ok.2 ⟨hd, by rw [hv]; exact ndEnc_sum hn.fits⟩
/-! ### a tree, or none -/
def RHr (D : Dk) : Rt → Prop
  | none => True
  | some r => r.1 ≤ 32 ∧ Hr D r.1 r.2.2 r.2.1
def RHd (f : Nat) (D : Dk) (s : Bs) : Rt → Prop
  | none => True
  | some r => r.1 ≤ 32 ∧ Hd f D s r.1 r.2.2 r.2.1
theorem RHd.hr {f D s} : ∀ {rt : Rt}, RHd f D s rt → RHr D rt
  | none, _ => trivial
  | some _, h => ⟨h.1, h.2.hr⟩
def leafR (key : Bs) : Rt → List It
  | none => []
  | some r => leafAt key r.1 r.2.2
def getR (key : Bs) (D : Dk) : Rt → Int × Option Bs
  | none => (0, none)
  | some r => getT key D r.1 r.2.2 r.2.1
def entR : Rt → List It
  | none => []
  | some r => ent r.1 r.2.2
def rangeR (fr to : Bs) (most : Int) (rt : Rt) : List It := if most ≤ 0 then [] else
  match rt with
  | none => []
  | some r => collT fr to most.toNat r.1 r.2.2 []
def colR (fr to : Bs) (mst : Nat) : Rt → List It
  | none => []
  | some r => collT fr to mst r.1 r.2.2 []
theorem rangeR_no {fr to : Bs} {most : Int} {rt : Rt} (h : most ≤ 0) : rangeR fr to most rt = [] := if_pos h
theorem rangeR_go {fr to : Bs} {mst : Nat} {rt : Rt} (h : ¬ (mst : Int) ≤ 0) : rangeR fr to mst rt = colR fr to mst rt := by
  unfold rangeR
  rw [if_neg h]
  cases rt <;> rfl
theorem getT_has {key : Bs} {D : Dk} : ∀ {h : Nat} {t : Tr h} {b : Nat} {v : Bs}, (getT key D h t b).2 = some v → hasF (leafAt key h t) key = true
  | 0, l, b, v, e => by
    unfold getT at e
    split at e
    · simp at e
    · unfold lookL at e
      split at e
      · assumption
      · simp at e
  | h + 1, x, b, v, e => by
    unfold getT at e
    unfold leafAt
    split at e
    · simp at e
    · split at e
      · simp at e
      · rename_i c hc
        first | exact getT_has e | (rw [hc]; exact getT_has e)
theorem getR_has {key : Bs} {D : Dk} : ∀ {rt : Rt} {v : Bs}, (getR key D rt).2 = some v → hasF (leafR key rt) key = true
  | none, _, e => by simp [getR] at e
  | some _, _, e => getT_has e
end Go.Proofs.YtbhladkbnleeoaaGreat

namespace Go.Proofs.YtbhladkbnleeoaaGreat
set_option maxRecDepth 100000
attribute [local irreducible] J JL At Rd Ef DNew DCar DRun Then RetQ LoopQ

set_option maxHeartbeats 400000 in
theorem tread_bad (t d m : Nat) (root : Int) (D : Dk) (b : Nat) (hb : b < D.n) (hbad : ¬ sumOk (D.vis b)) :
    Fn Tryz.prog 30 [.pointer (some ⟨t, 0, none⟩), .int .i64 (b : Int)] [pts t (.cells [.pointer (some ⟨d, 0, none⟩), .pointer (some ⟨m, 0, none⟩), .int .i64 root].toArray 68), dk d D] (X := Unit) (fun _ => True) (fun _ => .tuple #[.nilIface, .int .i64 (rdE D b)]) (fun _ => [pts t (.cells [.pointer (some ⟨d, 0, none⟩), .pointer (some ⟨m, 0, none⟩), .int .i64 root].toArray 68), dk d D]) := by
 refine Fn.mk' (n := 24) (l := [(0, .pointer (some ⟨t, 0, none⟩)), (1, .int .i64 (b : Int))]) (fn := Tryz.f30) Tryz.func30 (by kernel_rfl) rfl rfl (by simp) rfl ?_
 intro h0 w0
 refine J.sr <| JL.as Ev.c <| JL.as Ev.c <| JL.ns ?_
 have hrb := reach_in hb
 refine J.know (fun h s => dk_wf (Stars.sel (pre := [dk d D]) (by repeat constructor) s)) ?_
 intro hwf
 have hvl := hwf.vis b
 refine J.region <| JL.mv (t2 rfl) <| JL.rd (Rd.nil (t0 rfl)) <| JL.rd ((by first | exact Rd.fld0 fld_68_0 (t0 rfl) | exact Rd.fldz fld_68_0 (t0 rfl))) ?_
 refine JL.rd (Rd.ldN Tryz.isAgg24 (t0 rfl) (by repeat constructor) (by repeat constructor)) ?_
 refine JL.mv (t7 rfl) <| JL.ef (Ef.call (.cons (t1 rfl) (.cons (t0 rfl) .nil)) (read_cap d D (b : Int)) (by repeat constructor) ?_)
 rintro ⟨ra, rc⟩ hrc
 simp only [cA, nA]
 refine JL.mv (t0 rfl) <| JL.e (t0 rfl) <| JL.e (t1 rfl) <| JL.as (t1 rfl) <| JL.as (t1 rfl) <| JL.n5 <| JL.mv (t0 rfl) <| JL.rd (Rd.neq (t0 rfl) Ev.c) <| JL.n2 <| J.condD (t0 rfl) ?_ ?_
 intro hc1
 have hdn : D.down = true := by
   by_cases hd : D.down = true
   · exact hd
   · exfalso; exact hc1 (by rw [hrb]; unfold rdC; rw [if_neg hd])
 exact J.sr <| JL.mv (t2 rfl) <| JL.as Ev.c <| JL.as (t1 rfl) <| JL.nr <| At.nextR <| At.r (()) (trivial) (ResV.two rfl (t1 rfl) (t0 rfl)) (by rw [hrb]; unfold rdC rdE; rw [if_pos hdn, if_pos hdn])
 intro hc1
 have hdn : D.down = false := by
   by_cases hd : D.down = true
   · exfalso; exact hc1 (by rw [hrb]; unfold rdC; rw [if_pos hd]; decide)
   · simpa using hd
 have hrb0 : reachC D (b : Int) = 0 := by rw [hrb]; unfold rdC; rw [hdn]; rfl
 have hre : readB D (b : Int) = D.vis b := by unfold readB; rw [if_pos hrb0]; rfl
 rw [hre, hvl] at hrc
 rw [hre, hvl]
 obtain rfl : rc = 512 := hrc
 refine J.openBytes (by repeat constructor) ?_
 intro eb
 refine J.demote .here <| J.k4 <| JL.mv (t3 rfl) <| JL.ef (Ef.call (.cons (t0 rfl) .nil) (dec_bad ra 512 (D.vis b) (Nat.le_refl _) (by decide) hvl hbad) (by repeat constructor) ?_)
 rintro - -
 simp only [nA]
 exact JL.e (t0 rfl) <| JL.e (t1 rfl) <| JL.as (t1 rfl) <| JL.as (t1 rfl) <| JL.nr <| At.r (()) (trivial) (ResV.two rfl (t1 rfl) (t0 rfl)) (by unfold rdE; rw [if_neg (by rw [hdn]; decide), if_neg hbad])

theorem Fn.frame {P : Program} {f : FuncId} {args : List Value} {pre : List Assn} {X : Type} {R : X → Prop} {rt : X → Value} {post : X → List Assn} (F : Fn P f args pre R rt post) (rest : List Assn) : Fn P f args (pre ++ rest) R rt (fun x => post x ++ rest) :=
  ⟨F.ent, fun w h s b => by
    obtain ⟨h1, s1, b1, fr⟩ := Inv.split (Inv.start (pre ++ rest) s b)
    refine (F.calls w h1 s1 b1).mono ?_
    rintro e w' ⟨x, h', hR, he, s', b', f'⟩
    obtain ⟨h2, s2, b2, f2⟩ := fr h' w' (post x) s' b' f'
    exact ⟨x, h2, hR, he, s2, b2, f2⟩⟩
theorem itc_at {l : List It} {i : Nat} (h : i < l.length) : (l.map itc)[(i : Int).toNat]? = some [str (l.getD i ([], [])).1, str (l.getD i ([], [])).2] := by
  rw [Int.toNat_natCast, List.getElem?_map, List.getElem?_eq_getElem h]
  simp [itc, List.getD_eq_getElem?_getD, h]
theorem tread_gen (t d m : Nat) (root : Int) (D : Dk) (b : Nat) (n : Nd) (hb : b < D.n) (hn : NdOk n) (hv : D.vis b = ndEnc n ∨ ¬ sumOk (D.vis b)) :
    Fn Tryz.prog 30 [.pointer (some ⟨t, 0, none⟩), .int .i64 (b : Int)] [pts t (.cells [.pointer (some ⟨d, 0, none⟩), .pointer (some ⟨m, 0, none⟩), .int .i64 root].toArray 68), dk d D] (X := NdV) (fun x => rdE D b = 0 → x.n = n) (fun x => .tuple #[if rdE D b = 0 then x.val else .nilIface, .int .i64 (rdE D b)]) (fun x => [nodesM [x], pts t (.cells [.pointer (some ⟨d, 0, none⟩), .pointer (some ⟨m, 0, none⟩), .int .i64 root].toArray 68), dk d D]) := by
  by_cases hs : sumOk (D.vis b)
  · refine (tread_any t d m root D b n hb hn (hv.resolve_right fun h => h hs)).cvx id (fun x hx h => hx (rdE_ok.1 h).1) (fun _ s => s) (fun x _ => ?_) fun x _ _ s => s
    unfold rdE rdC
    cases hd : D.down <;> simp [hs]
  · refine (tread_bad t d m root D b hb hs).cvx (fun _ => ⟨none, 0, .leaf []⟩) (fun x hx h => absurd (rdE_ok.1 h).2 hs) (fun _ s => s) (fun x _ => ?_) fun x _ _ s => nodesM_one (x := ⟨none, 0, .leaf []⟩) (Nat.le_refl _) (rowR_nil none 2 s)
    rw [if_neg fun h => hs (rdE_ok.1 h).2]

set_option maxHeartbeats 400000 in
theorem get_none (t d m : Nat) (key : Bs) (D : Dk) :
    Fn Tryz.prog 12 [.pointer (some ⟨t, 0, none⟩), str key] [pts t (.cells [.pointer (some ⟨d, 0, none⟩), .pointer (some ⟨m, 0, none⟩), .int .i64 (-1)].toArray 68), dk d D] (X := Unit) (fun _ => True) (fun _ => .tuple #[str [], .bool false, .int .i64 0]) (fun _ => [pts t (.cells [.pointer (some ⟨d, 0, none⟩), .pointer (some ⟨m, 0, none⟩), .int .i64 (-1)].toArray 68), dk d D]) := by
 refine Fn.mk' (n := 57) (l := [(0, .pointer (some ⟨t, 0, none⟩)), (1, str key)]) (fn := Tryz.f12) Tryz.func12 (by kernel_rfl) rfl rfl (by simp) rfl ?_
 intro h0 w0
 refine J.sr <| JL.as Ev.c <| JL.as Ev.c <| JL.as Ev.c <| JL.n5 <| JL.mv (t3 rfl) <| JL.rd (Rd.eqlNil (t0 rfl) Tryz.runUnderlying26) <| JL.n2 <| J.condF (EvB (t0 rfl) rfl) <| J.skip <| At.next <| J.seq <| J.sr <| JL.mv (t5 rfl) <| JL.rd (Rd.nil (t0 rfl)) <| JL.rd ((by first | exact Rd.fld0 fld_68_2 (t0 rfl) | exact Rd.fld fld_68_2 (t0 rfl))) ?_
 refine JL.rd (Rd.ldN Tryz.isAgg3 (t0 rfl) (by repeat constructor) (by repeat constructor)) ?_
 refine JL.as (t0 rfl) <| JL.nb <| J.loop (X := Unit) (fun (x : Unit) => [(7, .int .i64 (-1))]) (K := [(6, _), (5, _), (4, _), (0, _), (1, _)]) (fun x => [pts t (.cells [.pointer (some ⟨d, 0, none⟩), .pointer (some ⟨m, 0, none⟩), .int .i64 (-1)].toArray 68), dk d D]) (fun x => True) (fun x => 0) (()) ?_ ⟨lk0.trans (by first | with_reducible rfl | (congr 1; omega) | (simp; done) | (simp [*]; done)), trivial⟩ ⟨(lk7 rfl), (lk8 rfl), (lk9 rfl), (lk10 rfl), (lk11 rfl), trivial⟩ (fun _ => Stars.sel (by repeat constructor)) ?_
 trivial
 rintro - ρ -
 simp only [cA, nA]
 refine J.seq <| J.sr <| JL.mv (t0 rfl) <| JL.rd (Rd.neq (t0 rfl) Ev.c) <| JL.n2 <| J.condDF (t0 rfl) (by exact fun h => h rfl) ?_
 exact J.exit <| At.nextX <| At.loopX <| At.blkX <| At.next <| J.sr <| JL.as Ev.c <| JL.as Ev.c <| JL.as Ev.c <| JL.nr <| At.r (()) (trivial) (ResV.three rfl (t2 rfl) (t1 rfl) (t0 rfl)) rfl

set_option maxHeartbeats 1000000 in
theorem get_some (t d m : Nat) (key : Bs) (D : Dk) (h : Nat) (tr : Tr h) (b : Nat) (hH : Hr D h tr b) :
    Fn Tryz.prog 12 [.pointer (some ⟨t, 0, none⟩), str key] [pts t (.cells [.pointer (some ⟨d, 0, none⟩), .pointer (some ⟨m, 0, none⟩), .int .i64 (b : Int)].toArray 68), dk d D] (X := Unit) (fun _ => True) (fun _ => .tuple #[str ((getT key D h tr b).2.getD []), .bool (getT key D h tr b).2.isSome, .int .i64 (getT key D h tr b).1]) (fun _ => [pts t (.cells [.pointer (some ⟨d, 0, none⟩), .pointer (some ⟨m, 0, none⟩), .int .i64 (b : Int)].toArray 68), dk d D]) := by
 refine Fn.mk' (n := 57) (l := [(0, .pointer (some ⟨t, 0, none⟩)), (1, str key)]) (fn := Tryz.f12) Tryz.func12 (by kernel_rfl) rfl rfl (by simp) rfl ?_
 intro h0 w0
 refine J.sr <| JL.as Ev.c <| JL.as Ev.c <| JL.as Ev.c <| JL.n5 <| JL.mv (t3 rfl) <| JL.rd (Rd.eqlNil (t0 rfl) Tryz.runUnderlying26) <| JL.n2 <| J.condF (EvB (t0 rfl) rfl) <| J.skip <| At.next <| J.seq <| J.sr <| JL.mv (t5 rfl) <| JL.rd (Rd.nil (t0 rfl)) <| JL.rd ((by first | exact Rd.fld0 fld_68_2 (t0 rfl) | exact Rd.fld fld_68_2 (t0 rfl))) ?_
 refine JL.rd (Rd.ldN Tryz.isAgg3 (t0 rfl) (by repeat constructor) (by repeat constructor)) ?_
 refine JL.as (t0 rfl) <| JL.nb <| J.loop (X := ((h : Nat) × Tr h) × Nat) (fun (x : ((h : Nat) × Tr h) × Nat) => [(7, .int .i64 (x.2 : Int))]) (K := [(6, _), (5, _), (4, _), (0, _), (1, _)]) (fun x => [pts t (.cells [.pointer (some ⟨d, 0, none⟩), .pointer (some ⟨m, 0, none⟩), .int .i64 (b : Int)].toArray 68), dk d D]) (fun x => getT key D x.1.1 x.1.2 x.2 = getT key D h tr b ∧ Hr D x.1.1 x.1.2 x.2) (fun x => x.1.1) ((⟨h, tr⟩, b)) ?_ ⟨lk0.trans (by first | with_reducible rfl | (congr 1; omega) | (simp; done) | (simp [*]; done)), trivial⟩ ⟨(lk7 rfl), (lk8 rfl), (lk9 rfl), (lk10 rfl), (lk11 rfl), trivial⟩ (fun _ => Stars.sel (by repeat constructor)) ?_
 exact ⟨rfl, hH⟩
 rintro ⟨⟨h1, u1⟩, b1⟩ ρ ⟨hg, hh⟩
 simp only [cA, nA]
 dsimp only at hg hh ⊢
 obtain ⟨hb1, hn1, hv1⟩ := hh.top
 refine J.seq <| J.sr <| JL.mv (t0 rfl) <| JL.rd (Rd.neq (t0 rfl) Ev.c) <| JL.n2 <| J.condDT (t0 rfl) (by omega) ?_
 refine J.skip <| At.next <| J.block <| J.sr <| JL.mv (t6 rfl) <| JL.mv (t3 rfl) <| JL.ef (Ef.call (.cons (t1 rfl) (.cons (t0 rfl) .nil)) (tread_gen t d m (b : Int) D b1 (nd h1 u1) hb1 hn1 hv1) (by repeat constructor) ?_)
 rintro ⟨xa, xc, xn⟩ hx
 simp only [cA, nA]
 refine JL.mv (t0 rfl) <| JL.e (t0 rfl) <| JL.e (t1 rfl) <| JL.as (t1 rfl) <| JL.as (t1 rfl) <| JL.n5 <| JL.mv (t0 rfl) <| JL.rd (Rd.neq (t0 rfl) Ev.c) <| JL.n2 <| J.condD (t0 rfl) ?_ ?_
 intro hc1
 have hr0 : rdE D b1 ≠ 0 := hc1
 exact J.sr <| JL.mv (t2 rfl) <| JL.as Ev.c <| JL.as Ev.c <| JL.as (t2 rfl) <| JL.nr <| At.nextR <| At.blkR <| At.loopR <| At.blkR <| At.nextR <| At.r (()) (trivial) (ResV.three rfl (t2 rfl) (t1 rfl) (t0 rfl)) (by rw [← hg, getT_err hr0]; rfl)
 intro hc1
 have hr0 : rdE D b1 = 0 := by simpa using hc1
 have hx : xn = _ := hx hr0
 rw [if_pos hr0]
 refine J.k4 <| JL.mv (t3 rfl) <| JL.nb <| J.seq ?_
 rcases h1 with _ | h1
 have hfin : getT key D h tr b = (0, lookL u1 key) := hg.symm.trans (getT_leaf hr0)
 change List It at u1
 obtain rfl : xn = .leaf u1 := hx
 rw [show NdV.val ⟨xa, xc, .leaf u1⟩ = .iface 85 (.slice xa (List.length (α := It) u1) xc) from rfl]
 refine J.nodeGet (List.mem_singleton.2 rfl) (by repeat constructor) ?_
 intro hxc
 have hxc2 : List.length (α := It) u1 ≤ xc := Nat.le_trans (Nat.le_of_eq (List.length_map (α := It) itc).symm) hxc
 have hll : List.length (α := It) u1 ≤ 126 := hn1.g.len
 rw [show NdV.cells ⟨xa, xc, .leaf u1⟩ = List.map itc u1 from rfl]
 refine J.region <| JL.rd (Rd.asOk (t0 rfl) Tryz.runUnderlying85 (fun _ h => by cases h)) <| JL.e (t0 rfl) <| JL.e (t1 rfl) <| JL.n2 <| J.condT (EvB (t1 rfl) rfl) <| J.sr <| JL.as (t0 rfl) <| JL.n5 <| JL.mv (t0 rfl) <| JL.mv (t23 rfl) <| JL.ef (Ef.call (.cons (t1 rfl) (.cons (t0 rfl) .nil)) (find_any xa xc u1 key hn1.2.2.1 (by omega)) (by repeat constructor) ?_)
 rintro - -
 simp only [cA, nA]
 refine JL.mv (t0 rfl) <| JL.e (t0 rfl) <| JL.e (t1 rfl) <| JL.as (t1 rfl) <| JL.as (t1 rfl) <| JL.ns <| J.live (K := [(12, _), (11, _), (10, _), (7, _), (6, _), (5, _), (4, _), (0, _), (1, _)]) ⟨lk0, (lk1 rfl), (lk8 rfl), (lk25 rfl), (lk26 rfl), (lk27 rfl), (lk28 rfl), (lk29 rfl), (lk30 rfl), trivial⟩ ?_
 intro ρ2
 refine J.region <| JL.mv (t0 rfl) <| JL.n2 <| J.cond (t0 rfl) ?_ ?_
 intro hc3
 have hh0 : hasF u1 key = true := hc3
 have hlt := has_lt2 hh0
 have hxi := itc_at hlt
 refine J.sr <| JL.mv (t3 rfl) <| JL.mv (t3 rfl) <| JL.rd (Rd.sIdx Tryz.runUnderlying85 Tryz.sizeOf64 (t1 rfl) (t0 rfl) (Src.i (by repeat constructor)) (by first | (simp; done) | (simp; omega) | omega | (simp [*]; done) | (simp [*]; omega)) (by omega) (by omega)) ?_
 refine JL.rd (Rd.sFld0 fld_64_1 (t0 rfl) (Src.i (by repeat constructor)) (List.getElem?_eq_some_iff.1 hxi).1) ?_
 refine JL.rd (Rd.sLd Tryz.isAgg9 (t0 rfl) (Src.i (by repeat constructor)) hxi rfl) ?_
 exact JL.as (t0 rfl) <| JL.as Ev.c <| JL.as Ev.c <| JL.nr <| At.nextR <| At.blkR <| At.blkR <| At.loopR <| At.blkR <| At.nextR <| At.r (()) (trivial) (ResV.three rfl (t2 rfl) (t1 rfl) (t0 rfl)) (by rw [hfin]; unfold lookL; rw [if_pos hh0]; rfl)
 intro hc3
 have hh0 : hasF u1 key = false := by simpa using hc3
 exact J.k4 <| JL.as Ev.c <| JL.as Ev.c <| JL.as Ev.c <| JL.nr <| At.blkR <| At.blkR <| At.loopR <| At.blkR <| At.nextR <| At.r (()) (trivial) (ResV.three rfl (t2 rfl) (t1 rfl) (t0 rfl)) (by rw [hfin]; unfold lookL; rw [hh0]; rfl)
 obtain rfl : xn = nd (h1 + 1) u1 := hx
 rw [show NdV.val ⟨xa, xc, nd (h1 + 1) u1⟩ = .iface 89 (.slice xa ((asK u1).map kdp).length xc) from rfl, List.length_map]
 refine J.nodeGet (List.mem_singleton.2 rfl) (by repeat constructor) ?_
 intro hxc
 rw [show NdV.cells ⟨xa, xc, nd (h1 + 1) u1⟩ = kcs (asK u1) from rfl] at hxc
 rw [show NdV.cells ⟨xa, xc, nd (h1 + 1) u1⟩ = kcs (asK u1) from rfl]
 rw [kcs_length] at hxc
 obtain ⟨kx1, kx2, kx3⟩ := nd_kids hn1.g
 obtain ⟨h2x, hpw⟩ := inner_facts hn1
 have hil : childF (asK u1) key < (asK u1).length := childF_lt kx3 key
 obtain ⟨c, hc⟩ : ∃ c, (asK u1)[childF (asK u1) key]? = some c := ⟨_, List.getElem?_eq_getElem hil⟩
 have hxk : (kcs (asK u1))[(childF (asK u1) key : Int).toNat]? = some [str c.1, .int .i64 (c.2.1 : Int)] := kcs_get hc
 refine J.region <| JL.rd (Rd.asNo (t0 rfl) (by decide) Tryz.runUnderlying85 (fun _ h => by cases h) Tryz.zeroValue85) ?_
 refine JL.e (t0 rfl) <| JL.e (t1 rfl) <| JL.n2 <| J.condF (EvB (t1 rfl) rfl) <| J.sr <| JL.rd (Rd.asOk (t3 rfl) Tryz.runUnderlying89 (fun _ h => by cases h)) <| JL.e (t0 rfl) <| JL.e (t1 rfl) <| JL.n2 <| J.condT (EvB (t1 rfl) rfl) <| J.sr <| JL.as (t0 rfl) <| JL.n2 <| J.region <| JL.mv (t0 rfl) <| JL.mv (t1 rfl) <| JL.mv (t27 rfl) <| JL.ef (Ef.call (.cons (t1 rfl) (.cons (t0 rfl) .nil)) (child_at xa (asK u1).length xc ((asK u1).map kdp) key (List.length_map _) (by rw [List.length_map]; omega) hpw (by rw [List.length_map]; omega)) (by repeat constructor) ?_)
 rintro - -
 rw [childF_map]
 simp only [cA, nA]
 refine JL.rd (Rd.sIdx Tryz.runUnderlying89 Tryz.sizeOf91 (t3 rfl) (t0 rfl) (Src.i (by repeat constructor)) (by first | (simp; done) | (simp; omega) | omega | (simp [*]; done) | (simp [*]; omega)) (by omega) (by omega)) ?_
 refine JL.rd (Rd.sFld0 fld_91_1 (t0 rfl) (Src.i (by repeat constructor)) (List.getElem?_eq_some_iff.1 hxk).1) ?_
 refine JL.rd (Rd.sLd Tryz.isAgg3 (t0 rfl) (Src.i (by repeat constructor)) hxk rfl) ?_
 refine JL.as (t0 rfl) <| JL.nil <| At.blkN <| At.blkN <| At.again ((⟨h1, c.2.2⟩, c.2.1)) ?_ ?_ ⟨lk0.trans (by first | with_reducible rfl | (congr 1; omega) | (simp; done) | (simp [*]; done)), trivial⟩ ⟨(lk29 rfl), (lk30 rfl), (lk31 rfl), (lk32 rfl), (lk33 rfl), trivial⟩ (fun _ => Stars.sel (by repeat constructor))
 exact ⟨by rw [← getT_down hr0 hc]; exact hg, hh.2.2.2 c (List.mem_of_getElem? hc)⟩
 show h1 < h1 + 1; omega
end Go.Proofs.YtbhladkbnleeoaaGreat

namespace Go.Proofs.YtbhladkbnleeoaaGreat
theorem bld_68 : Bld Tryz.prog 68 [.pointer none, .pointer none, .int .i64 0] [(0, 1), (1, 1), (2, 1)] := Bld.mk Tryz.zeroValue68 rfl Tryz.runUnderlying68 (fun w => by kernel_rfl)
theorem elt_48 : Elt Tryz.prog 48 64 2 32 ([.string ⟨#[]⟩, .string ⟨#[]⟩]) := Elt.mk' Tryz.underlying48 (i := Tryz.t64) (v := .agg ([.string ⟨#[]⟩, .string ⟨#[]⟩] : List Value).toArray) (by kernel_rfl) (by kernel_rfl) (by kernel_rfl) (by kernel_rfl) (by kernel_rfl) (by simp) (by decide)
end Go.Proofs.YtbhladkbnleeoaaGreat

namespace Go.Proofs.YtbhladkbnleeoaaGreat
set_option maxRecDepth 100000
attribute [local irreducible] J JL At Rd Ef DNew DCar DRun Then RetQ LoopQ

set_option maxHeartbeats 400000 in
theorem coll_none (t d m : Nat) (root : Int) (D : Dk) (v1 v2 v3 : Value) (o : List It) (oa : Option Addr) (oc : Nat) :
    Fn Tryz.prog 36 [.pointer (some ⟨t, 0, none⟩), .int .i64 (-1), v1, v2, v3, .slice oa o.length oc] [pts t (.cells [.pointer (some ⟨d, 0, none⟩), .pointer (some ⟨m, 0, none⟩), .int .i64 root].toArray 68), dk d D, row oa oc 64 2 (o.map itc)] (X := Option Addr × Nat) (fun _ => True) (fun x => .tuple #[.slice x.1 o.length x.2, .int .i64 0]) (fun x => [pts t (.cells [.pointer (some ⟨d, 0, none⟩), .pointer (some ⟨m, 0, none⟩), .int .i64 root].toArray 68), dk d D, row x.1 x.2 64 2 (o.map itc)]) := by
 refine Fn.mk' (n := 119) (l := [(0, .pointer (some ⟨t, 0, none⟩)), (1, .int .i64 (-1)), (2, v1), (3, v2), (4, v3), (5, .slice oa o.length oc)]) (fn := Tryz.f36) Tryz.func36 (by kernel_rfl) rfl rfl (by simp) rfl ?_
 intro h0 w0
 refine J.sr <| JL.as Ev.c <| JL.as Ev.c <| JL.n5 <| JL.mv (t3 rfl) <| JL.rd (Rd.eql (t0 rfl) Ev.c) <| JL.n2 <| J.condDT (t0 rfl) (by rfl) ?_
 exact J.sr <| JL.mv (t9 rfl) <| JL.as (t0 rfl) <| JL.as Ev.c <| JL.nr <| At.nextR <| At.r ((oa, oc)) (trivial) (ResV.two rfl (t1 rfl) (t0 rfl)) rfl

set_option maxHeartbeats 1000000 in
theorem coll_leaf (t d m : Nat) (root : Int) (D : Dk) (f : Nat) (sM : Bs) (fr to : Bs) (mst : Nat) (hd : D.down = false) (l : List It) (b : Nat) (o : List It) (oa : Option Addr) (oc : Nat) (hH : Hd f D sM 0 l b) (hB : o.length + l.length ≤ 1000000) :
    Fn Tryz.prog 36 [.pointer (some ⟨t, 0, none⟩), .int .i64 (b : Int), str fr, str to, .int .i64 (mst : Int), .slice oa o.length oc] [pts t (.cells [.pointer (some ⟨d, 0, none⟩), .pointer (some ⟨m, 0, none⟩), .int .i64 root].toArray 68), dk d D, row oa oc 64 2 (o.map itc)] (X := Option Addr × Nat) (fun _ => True) (fun x => .tuple #[.slice x.1 (colL fr to mst l o).length x.2, .int .i64 0]) (fun x => [pts t (.cells [.pointer (some ⟨d, 0, none⟩), .pointer (some ⟨m, 0, none⟩), .int .i64 root].toArray 68), dk d D, row x.1 x.2 64 2 ((colL fr to mst l o).map itc)]) := by
 refine Fn.mk' (n := 119) (l := [(0, .pointer (some ⟨t, 0, none⟩)), (1, .int .i64 (b : Int)), (2, str fr), (3, str to), (4, .int .i64 (mst : Int)), (5, .slice oa o.length oc)]) (fn := Tryz.f36) Tryz.func36 (by kernel_rfl) rfl rfl (by simp) rfl ?_
 intro h0 w0
 have hr0 := hH.rd0 hd
 obtain ⟨hb1, _, hn1, hv1⟩ := hH
 have hv1 : D.vis b = ndEnc (.leaf l) ∨ ¬ sumOk (D.vis b) := .inl hv1
 refine J.sr <| JL.as Ev.c <| JL.as Ev.c <| JL.n5 <| JL.mv (t3 rfl) <| JL.rd (Rd.eql (t0 rfl) Ev.c) <| JL.n2 <| J.condDF (t0 rfl) (by omega) ?_
 refine J.k4 <| JL.mv (t4 rfl) <| JL.mv (t6 rfl) <| JL.ef (Ef.call (.cons (t1 rfl) (.cons (t0 rfl) .nil)) (tread_gen t d m root D b (.leaf l) hb1 hn1 hv1) (by repeat constructor) ?_)
 rintro ⟨xa, xc, xn⟩ hx
 simp only [cA, nA]
 refine JL.mv (t0 rfl) <| JL.e (t0 rfl) <| JL.e (t1 rfl) <| JL.as (t1 rfl) <| JL.as (t1 rfl) <| JL.n5 <| JL.mv (t0 rfl) <| JL.rd (Rd.neq (t0 rfl) Ev.c) <| JL.n2 <| J.condDF (t0 rfl) (by exact fun h => h hr0) ?_
 refine J.skip <| At.next <| J.seq <| J.seq ?_
 have hx : xn = _ := hx hr0
 rw [if_pos hr0]
 obtain rfl : xn = .leaf l := hx
 rw [show NdV.val ⟨xa, xc, .leaf l⟩ = .iface 85 (.slice xa l.length xc) from rfl]
 refine J.nodeGet (List.mem_singleton.2 rfl) (by repeat constructor) ?_
 intro hxc
 rw [show NdV.cells ⟨xa, xc, .leaf l⟩ = List.map itc l from rfl]
 refine J.region <| JL.mv (t3 rfl) <| JL.nb <| J.sr <| JL.rd (Rd.asOk (t0 rfl) Tryz.runUnderlying85 (fun _ h => by cases h)) <| JL.e (t0 rfl) <| JL.e (t1 rfl) <| JL.n2 <| J.condT (EvB (t1 rfl) rfl) <| J.sr <| JL.as (t0 rfl) <| JL.n4 <| JL.mv (t0 rfl) <| JL.rd (Rd.len Tryz.runUnderlying85 (t0 rfl)) <| JL.mv Ev.c <| JL.nb <| J.loop (X := Nat × Option Addr × Nat) (fun (x : Nat × Option Addr × Nat) => [(39, .int .i64 (x.1 : Int)), (5, .slice x.2.1 (colL fr to mst (l.take x.1) o).length x.2.2)]) (K := [(38, _), (37, _), (13, _), (12, _), (2, _), (3, _), (4, _)]) (fun x => [pts t (.cells [.pointer (some ⟨d, 0, none⟩), .pointer (some ⟨m, 0, none⟩), .int .i64 root].toArray 68), dk d D, rowR xa 2 (l.map itc), row x.2.1 x.2.2 64 2 ((colL fr to mst (l.take x.1) o).map itc)]) (fun x => x.1 ≤ l.length) (fun x => l.length - x.1) ((0, oa, oc)) ?_ ⟨lk0.trans (by first | (first | (rw [List.take_zero]; rfl) | (rw [hcs]; done) | (rw [hcs, List.length_append]; rfl); done) | with_reducible rfl | (congr 1; omega) | (simp; done) | (simp [*]; done)), (lk27 rfl).trans (by first | (first | (rw [List.take_zero]; rfl) | (rw [hcs]; done) | (rw [hcs, List.length_append]; rfl); done) | with_reducible rfl | (congr 1; omega) | (simp; done) | (simp [*]; done)), trivial⟩ ⟨(lk1 rfl), (lk2 rfl), (lk20 rfl), (lk21 rfl), (lk24 rfl), (lk25 rfl), (lk26 rfl), trivial⟩ (fun _ => Stars.sel (by repeat constructor)) ?_
 exact Nat.zero_le _
 rintro ⟨x, ra, rc⟩ ρ hk
 simp only [cA, nA]
 dsimp only at hk ⊢
 refine J.sr <| JL.rd (Rd.lss (t0 rfl) (t2 rfl)) <| JL.ns <| J.condD (t0 rfl) ?_ ?_
 intro hc1
 obtain ⟨p, hp⟩ : ∃ p, l[x]? = some p := ⟨_, List.getElem?_eq_getElem (by omega)⟩
 have hxi : (List.map itc l)[(x : Int).toNat]? = some [str p.1, str p.2] := by simp [hp, itc]
 have hol := colL_le (fr := fr) (to := to) (most := mst) (l.take x) o
 rw [List.length_take] at hol
 obtain ⟨oo, hoo⟩ : ∃ oo, oo = (colL fr to mst (l.take x) o) := ⟨_, rfl⟩
 rw [← hoo] at hol ⊢
 refine J.skip <| At.next <| J.seq <| J.block <| J.sr <| JL.rd (Rd.sIdx Tryz.runUnderlying85 Tryz.sizeOf64 (t4 rfl) (t1 rfl) (Src.i (by repeat constructor)) (by first | (simp; done) | (simp; omega) | omega | (simp [*]; done) | (simp [*]; omega)) (by omega) (by omega)) ?_
 refine JL.rd (Rd.sLdA Tryz.isAgg64 Tryz.sizeOf64 (t0 rfl) (Src.i (by repeat constructor)) hxi) ?_
 refine JL.ef (Ef.alloc Tryz.zeroValue64 rfl ?_)
 intro b2
 refine JL.ef0 (Ef.stB Tryz.sizeOf64 (t0 rfl) (t1 rfl) (by repeat constructor) (by repeat constructor) (by first | rfl | assumption | simp_all) (by first | rfl | assumption | simp_all) (by first | exact bv_one _ | exact cons_one rfl (bv_one _) | (simp [Value.oneCell']; done) | (simp [Value.oneCell', str]; done)) (by decide) ?_)
 refine JL.n4 <| JL.rd ((by first | exact Rd.fld0 fld_64_0 (t0 rfl) | exact Rd.fldz fld_64_0 (t0 rfl))) ?_
 refine JL.rd (Rd.ldN Tryz.isAgg9 (t0 rfl) (by repeat constructor) (by repeat constructor)) ?_
 refine JL.mv (t12 rfl) <| JL.rd (Rd.str_geq (t1 rfl) (t0 rfl)) <| JL.mv (t0 rfl) <| JL.caseB (t0 rfl) ?_ ?_
 intro hb3
 refine JL.rdG rfl (EvB (t0 rfl) hb3) rfl (Rd.move (t16 rfl)) <| JL.rdG rfl (EvB (t1 rfl) hb3) rfl (Rd.str_eql (t0 rfl) Ev.c) <| JL.rdG rfl (EvB (t2 rfl) hb3) rfl (Rd.move (t0 rfl)) <| JL.caseD (t0 rfl) ?_ ?_
 intro hb4p hb4
 refine JL.skG rfl (EvB (t0 rfl) hb4) rfl <| JL.skG rfl (EvB (t1 rfl) hb4) rfl <| JL.skG rfl (EvB (t2 rfl) hb4) rfl <| JL.skG rfl (EvB (t3 rfl) hb4) rfl <| JL.rdG rfl (EvB (t7 rfl) hb3) rfl (Rd.pickT (EvB (t4 rfl) hb4) Ev.c) <| JL.rd (Rd.pickT (EvB (t8 rfl) hb3) (t0 rfl)) <| JL.mv (t0 rfl) <| JL.rdG rfl (t0 rfl) rfl (Rd.move (t20 rfl)) <| JL.rdG rfl (t1 rfl) rfl (Rd.len Tryz.runUnderlying48 (t0 rfl)) <| JL.rdG rfl (t2 rfl) rfl (Rd.move (t29 rfl)) <| JL.rdG rfl (t3 rfl) rfl (Rd.lss (t1 rfl) (t0 rfl)) <| JL.rd (Rd.pickT (t4 rfl) (t0 rfl)) <| JL.n2 <| J.condD (t0 rfl) ?_ ?_
 intro hc5
 refine J.live (K := [(18, _), (39, _), (5, _), (38, _), (37, _), (13, _), (12, _), (2, _), (3, _), (4, _)]) ⟨(lk20 rfl), (lk24 rfl), (lk25 rfl), (lk26 rfl), (lk27 rfl), (lk28 rfl), (lk29 rfl), (lk30 rfl), (lk31 rfl), (lk32 rfl), trivial⟩ ?_
 intro ρ6
 refine J.region <| JL.mv (t2 rfl) <| JL.rd (Rd.ldB Tryz.isAgg64 Tryz.sizeOf64 (t1 rfl) (by repeat constructor) (by first | rfl | assumption | simp_all)) ?_
 refine JL.ef (Ef.slit1 elt_48 (t0 rfl) rfl rfl (by decide) ?_)
 intro b7
 refine JL.ef (Ef.appS elt_48 (t2 rfl) (t0 rfl) (by repeat constructor) (Src.i (by repeat constructor)) (by first | (simp; done) | (simp; omega) | omega | (simp [*]; done) | (simp [*]; omega)) (by first | (simp; done) | (simp; omega) | omega | (simp [*]; done) | (simp [*]; omega)) (by simp [Value.oneCell', str]) (by first | omega | (simp; omega)) (by first | (simp only [maxLen]; omega) | (simp [maxLen]; omega)) ?_)
 intro a8 c9
 refine JL.as (t0 rfl) <| JL.nil <| At.blkN <| At.next ?_
 have hcs : (colL fr to mst (l.take (x + 1)) o) = oo ++ [p] := by rw [colL_step hp, ← hoo]; exact if_pos ⟨by unfold inB; simp [*], by omega⟩
 refine J.region <| JL.rd (Rd.add (t6 rfl) Ev.c (w64 (by omega) (by omega))) ?_
 refine JL.mv (t0 rfl) <| JL.nil ?_
 first | rw [show List.map itc oo ++ [[str p.1, str p.2]] = List.map itc (colL fr to mst (l.take (x + 1)) o) by rw [hcs]; simp [itc]] | rw [← hcs]
 refine At.again ((x + 1, a8, c9)) ?_ ?_ ⟨lk0.trans (by first | (first | (rw [List.take_zero]; rfl) | (rw [hcs]; done) | (rw [hcs, List.length_append]; rfl); done) | with_reducible rfl | (congr 1; omega) | (simp; done) | (simp [*]; done)), (lk2 rfl).trans (by first | (first | (rw [List.take_zero]; rfl) | (rw [hcs]; done) | (rw [hcs, List.length_append]; rfl); done) | with_reducible rfl | (congr 1; omega) | (simp; done) | (simp [*]; done)), trivial⟩ ⟨(lk10 rfl), (lk11 rfl), (lk12 rfl), (lk13 rfl), (lk14 rfl), (lk15 rfl), (lk16 rfl), trivial⟩ (fun _ => Stars.sel (by repeat constructor))
 show x + 1 ≤ l.length; omega
 show l.length - (x + 1) < l.length - x; omega
 intro hc5
 refine J.skip <| At.blkN <| At.next <| J.live (K := [(39, _), (5, _), (38, _), (37, _), (13, _), (12, _), (2, _), (3, _), (4, _)]) ⟨(lk24 rfl), (lk25 rfl), (lk26 rfl), (lk27 rfl), (lk28 rfl), (lk29 rfl), (lk30 rfl), (lk31 rfl), (lk32 rfl), trivial⟩ ?_
 intro ρ10
 have hcs : (colL fr to mst (l.take (x + 1)) o) = oo := by
   rw [colL_step hp, ← hoo]
   refine if_neg ?_
   rintro ⟨h8, h9⟩
   unfold inB at h8
   first | (exfalso; omega) | (simp [*] at h8)
 refine J.region <| JL.rd (Rd.add (t0 rfl) Ev.c (w64 (by omega) (by omega))) ?_
 refine JL.mv (t0 rfl) <| JL.nil ?_
 first | rw [show List.map itc oo ++ [[str p.1, str p.2]] = List.map itc (colL fr to mst (l.take (x + 1)) o) by rw [hcs]; simp [itc]] | rw [← hcs]
 refine At.again ((x + 1, ra, rc)) ?_ ?_ ⟨lk0.trans (by first | (first | (rw [List.take_zero]; rfl) | (rw [hcs]; done) | (rw [hcs, List.length_append]; rfl); done) | with_reducible rfl | (congr 1; omega) | (simp; done) | (simp [*]; done)), (lk3 rfl).trans (by first | (first | (rw [List.take_zero]; rfl) | (rw [hcs]; done) | (rw [hcs, List.length_append]; rfl); done) | with_reducible rfl | (congr 1; omega) | (simp; done) | (simp [*]; done)), trivial⟩ ⟨(lk4 rfl), (lk5 rfl), (lk6 rfl), (lk7 rfl), (lk8 rfl), (lk9 rfl), (lk10 rfl), trivial⟩ (fun _ => Stars.sel (by repeat constructor))
 show x + 1 ≤ l.length; omega
 show l.length - (x + 1) < l.length - x; omega
 intro hb4p hb4
 refine JL.rdG rfl (EvB (t0 rfl) hb4) rfl ((by first | exact Rd.fld0 fld_64_0 (t8 rfl) | exact Rd.fldz fld_64_0 (t8 rfl))) ?_
 refine JL.rdG rfl (EvB (t1 rfl) hb4) rfl (Rd.ldN Tryz.isAgg9 (t0 rfl) (by repeat constructor) (by repeat constructor)) ?_
 refine JL.rdG rfl (EvB (t2 rfl) hb4) rfl (Rd.move (t21 rfl)) <| JL.rdG rfl (EvB (t3 rfl) hb4) rfl (Rd.str_lss (t1 rfl) (t0 rfl)) <| JL.rdG rfl (EvB (t7 rfl) hb3) rfl (Rd.pickF (EvB (t4 rfl) hb4) (t0 rfl)) <| JL.rd (Rd.pickT (EvB (t8 rfl) hb3) (t0 rfl)) <| JL.mv (t0 rfl) <| JL.caseB (t0 rfl) ?_ ?_
 intro hb11
 refine JL.rdG rfl (EvB (t0 rfl) hb11) rfl (Rd.move (t20 rfl)) <| JL.rdG rfl (EvB (t1 rfl) hb11) rfl (Rd.len Tryz.runUnderlying48 (t0 rfl)) <| JL.rdG rfl (EvB (t2 rfl) hb11) rfl (Rd.move (t29 rfl)) <| JL.rdG rfl (EvB (t3 rfl) hb11) rfl (Rd.lss (t1 rfl) (t0 rfl)) <| JL.rd (Rd.pickT (EvB (t4 rfl) hb11) (t0 rfl)) <| JL.n2 <| J.condD (t0 rfl) ?_ ?_
 intro hc12
 refine J.live (K := [(18, _), (39, _), (5, _), (38, _), (37, _), (13, _), (12, _), (2, _), (3, _), (4, _)]) ⟨(lk20 rfl), (lk24 rfl), (lk25 rfl), (lk26 rfl), (lk27 rfl), (lk28 rfl), (lk29 rfl), (lk30 rfl), (lk31 rfl), (lk32 rfl), trivial⟩ ?_
 intro ρ13
 refine J.region <| JL.mv (t2 rfl) <| JL.rd (Rd.ldB Tryz.isAgg64 Tryz.sizeOf64 (t1 rfl) (by repeat constructor) (by first | rfl | assumption | simp_all)) ?_
 refine JL.ef (Ef.slit1 elt_48 (t0 rfl) rfl rfl (by decide) ?_)
 intro b14
 refine JL.ef (Ef.appS elt_48 (t2 rfl) (t0 rfl) (by repeat constructor) (Src.i (by repeat constructor)) (by first | (simp; done) | (simp; omega) | omega | (simp [*]; done) | (simp [*]; omega)) (by first | (simp; done) | (simp; omega) | omega | (simp [*]; done) | (simp [*]; omega)) (by simp [Value.oneCell', str]) (by first | omega | (simp; omega)) (by first | (simp only [maxLen]; omega) | (simp [maxLen]; omega)) ?_)
 intro a15 c16
 refine JL.as (t0 rfl) <| JL.nil <| At.blkN <| At.next ?_
 have hcs : (colL fr to mst (l.take (x + 1)) o) = oo ++ [p] := by rw [colL_step hp, ← hoo]; exact if_pos ⟨by unfold inB; simp [*], by omega⟩
 refine J.region <| JL.rd (Rd.add (t6 rfl) Ev.c (w64 (by omega) (by omega))) ?_
 refine JL.mv (t0 rfl) <| JL.nil ?_
 first | rw [show List.map itc oo ++ [[str p.1, str p.2]] = List.map itc (colL fr to mst (l.take (x + 1)) o) by rw [hcs]; simp [itc]] | rw [← hcs]
 refine At.again ((x + 1, a15, c16)) ?_ ?_ ⟨lk0.trans (by first | (first | (rw [List.take_zero]; rfl) | (rw [hcs]; done) | (rw [hcs, List.length_append]; rfl); done) | with_reducible rfl | (congr 1; omega) | (simp; done) | (simp [*]; done)), (lk2 rfl).trans (by first | (first | (rw [List.take_zero]; rfl) | (rw [hcs]; done) | (rw [hcs, List.length_append]; rfl); done) | with_reducible rfl | (congr 1; omega) | (simp; done) | (simp [*]; done)), trivial⟩ ⟨(lk10 rfl), (lk11 rfl), (lk12 rfl), (lk13 rfl), (lk14 rfl), (lk15 rfl), (lk16 rfl), trivial⟩ (fun _ => Stars.sel (by repeat constructor))
 show x + 1 ≤ l.length; omega
 show l.length - (x + 1) < l.length - x; omega
 intro hc12
 refine J.skip <| At.blkN <| At.next <| J.live (K := [(39, _), (5, _), (38, _), (37, _), (13, _), (12, _), (2, _), (3, _), (4, _)]) ⟨(lk24 rfl), (lk25 rfl), (lk26 rfl), (lk27 rfl), (lk28 rfl), (lk29 rfl), (lk30 rfl), (lk31 rfl), (lk32 rfl), trivial⟩ ?_
 intro ρ17
 have hcs : (colL fr to mst (l.take (x + 1)) o) = oo := by
   rw [colL_step hp, ← hoo]
   refine if_neg ?_
   rintro ⟨h8, h9⟩
   unfold inB at h8
   first | (exfalso; omega) | (simp [*] at h8)
 refine J.region <| JL.rd (Rd.add (t0 rfl) Ev.c (w64 (by omega) (by omega))) ?_
 refine JL.mv (t0 rfl) <| JL.nil ?_
 first | rw [show List.map itc oo ++ [[str p.1, str p.2]] = List.map itc (colL fr to mst (l.take (x + 1)) o) by rw [hcs]; simp [itc]] | rw [← hcs]
 refine At.again ((x + 1, ra, rc)) ?_ ?_ ⟨lk0.trans (by first | (first | (rw [List.take_zero]; rfl) | (rw [hcs]; done) | (rw [hcs, List.length_append]; rfl); done) | with_reducible rfl | (congr 1; omega) | (simp; done) | (simp [*]; done)), (lk3 rfl).trans (by first | (first | (rw [List.take_zero]; rfl) | (rw [hcs]; done) | (rw [hcs, List.length_append]; rfl); done) | with_reducible rfl | (congr 1; omega) | (simp; done) | (simp [*]; done)), trivial⟩ ⟨(lk4 rfl), (lk5 rfl), (lk6 rfl), (lk7 rfl), (lk8 rfl), (lk9 rfl), (lk10 rfl), trivial⟩ (fun _ => Stars.sel (by repeat constructor))
 show x + 1 ≤ l.length; omega
 show l.length - (x + 1) < l.length - x; omega
 intro hb11
 refine JL.skG rfl (EvB (t0 rfl) hb11) rfl <| JL.skG rfl (EvB (t1 rfl) hb11) rfl <| JL.skG rfl (EvB (t2 rfl) hb11) rfl <| JL.skG rfl (EvB (t3 rfl) hb11) rfl <| JL.rd (Rd.pickF (EvB (t4 rfl) hb11) Ev.c) <| JL.n2 <| J.condF (t0 rfl) <| J.skip <| At.blkN <| At.next <| J.live (K := [(39, _), (5, _), (38, _), (37, _), (13, _), (12, _), (2, _), (3, _), (4, _)]) ⟨(lk24 rfl), (lk25 rfl), (lk26 rfl), (lk27 rfl), (lk28 rfl), (lk29 rfl), (lk30 rfl), (lk31 rfl), (lk32 rfl), trivial⟩ ?_
 intro ρ18
 have hcs : (colL fr to mst (l.take (x + 1)) o) = oo := by
   rw [colL_step hp, ← hoo]
   refine if_neg ?_
   rintro ⟨h8, h9⟩
   unfold inB at h8
   first | (exfalso; omega) | (simp [*] at h8)
 refine J.region <| JL.rd (Rd.add (t0 rfl) Ev.c (w64 (by omega) (by omega))) ?_
 refine JL.mv (t0 rfl) <| JL.nil ?_
 first | rw [show List.map itc oo ++ [[str p.1, str p.2]] = List.map itc (colL fr to mst (l.take (x + 1)) o) by rw [hcs]; simp [itc]] | rw [← hcs]
 refine At.again ((x + 1, ra, rc)) ?_ ?_ ⟨lk0.trans (by first | (first | (rw [List.take_zero]; rfl) | (rw [hcs]; done) | (rw [hcs, List.length_append]; rfl); done) | with_reducible rfl | (congr 1; omega) | (simp; done) | (simp [*]; done)), (lk3 rfl).trans (by first | (first | (rw [List.take_zero]; rfl) | (rw [hcs]; done) | (rw [hcs, List.length_append]; rfl); done) | with_reducible rfl | (congr 1; omega) | (simp; done) | (simp [*]; done)), trivial⟩ ⟨(lk4 rfl), (lk5 rfl), (lk6 rfl), (lk7 rfl), (lk8 rfl), (lk9 rfl), (lk10 rfl), trivial⟩ (fun _ => Stars.sel (by repeat constructor))
 show x + 1 ≤ l.length; omega
 show l.length - (x + 1) < l.length - x; omega
 intro hb3
 refine JL.skG rfl (EvB (t0 rfl) hb3) rfl <| JL.skG rfl (EvB (t1 rfl) hb3) rfl <| JL.skG rfl (EvB (t2 rfl) hb3) rfl <| JL.skU rfl (t0 rfl) <| JL.skU rfl (t1 rfl) <| JL.skU rfl (t2 rfl) <| JL.skU rfl (t3 rfl) <| JL.skG rfl (EvB (t7 rfl) hb3) rfl <| JL.rd (Rd.pickF (EvB (t8 rfl) hb3) Ev.c) <| JL.mv (t0 rfl) <| JL.skG rfl (t0 rfl) rfl <| JL.skG rfl (t1 rfl) rfl <| JL.skG rfl (t2 rfl) rfl <| JL.skG rfl (t3 rfl) rfl <| JL.rd (Rd.pickF (t4 rfl) Ev.c) <| JL.n2 <| J.condF (t0 rfl) <| J.skip <| At.blkN <| At.next <| J.live (K := [(39, _), (5, _), (38, _), (37, _), (13, _), (12, _), (2, _), (3, _), (4, _)]) ⟨(lk24 rfl), (lk25 rfl), (lk26 rfl), (lk27 rfl), (lk28 rfl), (lk29 rfl), (lk30 rfl), (lk31 rfl), (lk32 rfl), trivial⟩ ?_
 intro ρ19
 have hcs : (colL fr to mst (l.take (x + 1)) o) = oo := by
   rw [colL_step hp, ← hoo]
   refine if_neg ?_
   rintro ⟨h8, h9⟩
   unfold inB at h8
   first | (exfalso; omega) | (simp [*] at h8)
 refine J.region <| JL.rd (Rd.add (t0 rfl) Ev.c (w64 (by omega) (by omega))) ?_
 refine JL.mv (t0 rfl) <| JL.nil ?_
 first | rw [show List.map itc oo ++ [[str p.1, str p.2]] = List.map itc (colL fr to mst (l.take (x + 1)) o) by rw [hcs]; simp [itc]] | rw [← hcs]
 refine At.again ((x + 1, ra, rc)) ?_ ?_ ⟨lk0.trans (by first | (first | (rw [List.take_zero]; rfl) | (rw [hcs]; done) | (rw [hcs, List.length_append]; rfl); done) | with_reducible rfl | (congr 1; omega) | (simp; done) | (simp [*]; done)), (lk3 rfl).trans (by first | (first | (rw [List.take_zero]; rfl) | (rw [hcs]; done) | (rw [hcs, List.length_append]; rfl); done) | with_reducible rfl | (congr 1; omega) | (simp; done) | (simp [*]; done)), trivial⟩ ⟨(lk4 rfl), (lk5 rfl), (lk6 rfl), (lk7 rfl), (lk8 rfl), (lk9 rfl), (lk10 rfl), trivial⟩ (fun _ => Stars.sel (by repeat constructor))
 show x + 1 ≤ l.length; omega
 show l.length - (x + 1) < l.length - x; omega
 intro hc1
 obtain rfl : x = l.length := by omega
 rw [List.take_length]
 exact J.exit <| At.nextX <| At.loopX <| At.blkX <| At.blkN <| At.next <| J.sr <| JL.mv (t2 rfl) <| JL.as (t0 rfl) <| JL.as Ev.c <| JL.nr <| At.r ((ra, rc)) (trivial) (ResV.two rfl (t1 rfl) (t0 rfl)) rfl

set_option maxHeartbeats 1000000 in
theorem coll_inner (t d m : Nat) (root : Int) (D : Dk) (f : Nat) (sM : Bs) (fr to : Bs) (mst : Nat) (hd : D.down = false) (h : Nat) (ih : ∀ (v : Tr h) (b : Nat) (o : List It) (oa : Option Addr) (oc : Nat), Hd f D sM h v b → o.length + (ent h v).length ≤ 1000000 → Fn Tryz.prog 36 [.pointer (some ⟨t, 0, none⟩), .int .i64 (b : Int), str fr, str to, .int .i64 (mst : Int), .slice oa o.length oc] [pts t (.cells [.pointer (some ⟨d, 0, none⟩), .pointer (some ⟨m, 0, none⟩), .int .i64 root].toArray 68), dk d D, row oa oc 64 2 (o.map itc)] (X := Option Addr × Nat) (fun _ => True) (fun x => .tuple #[.slice x.1 (collT fr to mst h v o).length x.2, .int .i64 0]) (fun x => [pts t (.cells [.pointer (some ⟨d, 0, none⟩), .pointer (some ⟨m, 0, none⟩), .int .i64 root].toArray 68), dk d D, row x.1 x.2 64 2 ((collT fr to mst h v o).map itc)])) (u : Tr (h + 1)) (b : Nat) (o : List It) (oa : Option Addr) (oc : Nat) (hH : Hd f D sM (h + 1) u b) (hB : o.length + (ent (h + 1) u).length ≤ 1000000) :
    Fn Tryz.prog 36 [.pointer (some ⟨t, 0, none⟩), .int .i64 (b : Int), str fr, str to, .int .i64 (mst : Int), .slice oa o.length oc] [pts t (.cells [.pointer (some ⟨d, 0, none⟩), .pointer (some ⟨m, 0, none⟩), .int .i64 root].toArray 68), dk d D, row oa oc 64 2 (o.map itc)] (X := Option Addr × Nat) (fun _ => True) (fun x => .tuple #[.slice x.1 (collT fr to mst (h + 1) u o).length x.2, .int .i64 0]) (fun x => [pts t (.cells [.pointer (some ⟨d, 0, none⟩), .pointer (some ⟨m, 0, none⟩), .int .i64 root].toArray 68), dk d D, row x.1 x.2 64 2 ((collT fr to mst (h + 1) u o).map itc)]) := by
 refine Fn.mk' (n := 119) (l := [(0, .pointer (some ⟨t, 0, none⟩)), (1, .int .i64 (b : Int)), (2, str fr), (3, str to), (4, .int .i64 (mst : Int)), (5, .slice oa o.length oc)]) (fn := Tryz.f36) Tryz.func36 (by kernel_rfl) rfl rfl (by simp) rfl ?_
 intro h0 w0
 have hr0 := hH.rd0 hd
 obtain ⟨hb1, _, hn1, hv1, hsub⟩ := hH
 have hv1 : D.vis b = ndEnc (nd (h + 1) u) ∨ ¬ sumOk (D.vis b) := .inl hv1
 refine J.sr <| JL.as Ev.c <| JL.as Ev.c <| JL.n5 <| JL.mv (t3 rfl) <| JL.rd (Rd.eql (t0 rfl) Ev.c) <| JL.n2 <| J.condDF (t0 rfl) (by omega) ?_
 refine J.k4 <| JL.mv (t4 rfl) <| JL.mv (t6 rfl) <| JL.ef (Ef.call (.cons (t1 rfl) (.cons (t0 rfl) .nil)) (tread_gen t d m root D b (nd (h + 1) u) hb1 hn1 hv1) (by repeat constructor) ?_)
 rintro ⟨xa, xc, xn⟩ hx
 simp only [cA, nA]
 refine JL.mv (t0 rfl) <| JL.e (t0 rfl) <| JL.e (t1 rfl) <| JL.as (t1 rfl) <| JL.as (t1 rfl) <| JL.n5 <| JL.mv (t0 rfl) <| JL.rd (Rd.neq (t0 rfl) Ev.c) <| JL.n2 <| J.condDF (t0 rfl) (by exact fun h => h hr0) ?_
 refine J.skip <| At.next <| J.seq <| J.seq ?_
 have hx : xn = _ := hx hr0
 rw [if_pos hr0]
 obtain rfl : xn = nd (h + 1) u := hx
 rw [show NdV.val ⟨xa, xc, nd (h + 1) u⟩ = .iface 89 (.slice xa ((asK u).map kdp).length xc) from rfl, List.length_map]
 refine J.nodeGet (List.mem_singleton.2 rfl) (by repeat constructor) ?_
 intro hxc
 rw [show NdV.cells ⟨xa, xc, nd (h + 1) u⟩ = kcs (asK u) from rfl] at hxc
 rw [show NdV.cells ⟨xa, xc, nd (h + 1) u⟩ = kcs (asK u) from rfl]
 rw [kcs_length] at hxc
 obtain ⟨kx1, kx2, kx3⟩ := nd_kids hn1.g
 obtain ⟨h2x, hpw⟩ := inner_facts hn1
 have hil : childF (asK u) fr < (asK u).length := childF_lt kx3 fr
 have hsm := sum_drop ((asK u).map (fun (p : Kt h) => (ent h p.2.2).length)) (childF (asK u) fr)
 rw [← List.map_drop, ← ent_sum] at hsm
 have hsm2 : o.length + (((asK u).drop (childF (asK u) fr)).map (fun (p : Kt h) => (ent h p.2.2).length)).sum ≤ 1000000 := by omega
 refine J.region <| JL.mv (t3 rfl) <| JL.nb <| J.sr <| JL.rd (Rd.asNo (t0 rfl) (by decide) Tryz.runUnderlying85 (fun _ h => by cases h) Tryz.zeroValue85) ?_
 refine JL.e (t0 rfl) <| JL.e (t1 rfl) <| JL.n2 <| J.condF (EvB (t1 rfl) rfl) <| J.sr <| JL.rd (Rd.asOk (t3 rfl) Tryz.runUnderlying89 (fun _ h => by cases h)) <| JL.e (t0 rfl) <| JL.e (t1 rfl) <| JL.n2 <| J.condT (EvB (t1 rfl) rfl) <| J.sr <| JL.as (t0 rfl) <| JL.n4 <| JL.mv (t0 rfl) <| JL.mv (t25 rfl) <| JL.ef (Ef.call (.cons (t1 rfl) (.cons (t0 rfl) .nil)) (child_at xa (asK u).length xc ((asK u).map kdp) fr (List.length_map _) (by rw [List.length_map]; omega) hpw (by rw [List.length_map]; omega)) (by repeat constructor) ?_)
 rintro - -
 rw [childF_map]
 simp only [cA, nA]
 refine JL.as (t0 rfl) <| JL.nb <| J.loop (X := Nat × List It × Option Addr × Nat) (fun (x : Nat × List It × Option Addr × Nat) => [(20, .int .i64 (x.1 : Int)), (5, .slice x.2.2.1 x.2.1.length x.2.2.2)]) (K := [(19, _), (13, _), (12, _), (0, _), (2, _), (3, _), (4, _)]) (fun x => [pts t (.cells [.pointer (some ⟨d, 0, none⟩), .pointer (some ⟨m, 0, none⟩), .int .i64 root].toArray 68), dk d D, rowR xa 2 (kcs (asK u)), row x.2.2.1 x.2.2.2 64 2 (x.2.1.map itc)]) (fun x => x.1 ≤ (asK u).length ∧ colK (fun (p : Kt h) (o : List It) => collT fr to mst h p.2.2 o) (fun (p : Kt h) => p.1) to mst x.1 ((asK u).drop x.1) x.2.1 = (collT fr to mst (h + 1) u o) ∧ x.2.1.length + (((asK u).drop x.1).map (fun (p : Kt h) => (ent h p.2.2).length)).sum ≤ 1000000) (fun x => (asK u).length - x.1) ((childF (asK u) fr, o, oa, oc)) ?_ ⟨lk0.trans (by first | with_reducible rfl | (congr 1; omega) | (simp; done) | (simp [*]; done)), (lk31 rfl).trans (by first | with_reducible rfl | (congr 1; omega) | (simp; done) | (simp [*]; done)), trivial⟩ ⟨(lk4 rfl), (lk24 rfl), (lk25 rfl), (lk26 rfl), (lk28 rfl), (lk29 rfl), (lk30 rfl), trivial⟩ (fun _ => Stars.sel (by repeat constructor)) ?_
 exact ⟨Nat.le_of_lt hil, rfl, hsm2⟩
 rintro ⟨x, oo, ra, rc⟩ ρ ⟨hk, hfe, hbd⟩
 simp only [cA, nA]
 dsimp only at hk hfe hbd ⊢
 refine J.seq <| J.sr <| JL.mv (t0 rfl) <| JL.mv (t3 rfl) <| JL.rd (Rd.len Tryz.runUnderlying89 (t0 rfl)) <| JL.rd (Rd.lss (t2 rfl) (t0 rfl)) <| JL.n2 <| J.condD (t0 rfl) ?_ ?_
 intro hc1
 obtain ⟨c, hc⟩ : ∃ c, (asK u)[x]? = some c := ⟨_, List.getElem?_eq_getElem (by omega)⟩
 have hxk : (kcs (asK u))[(x : Int).toNat]? = some [str c.1, .int .i64 (c.2.1 : Int)] := kcs_get hc
 have hdr : (asK u).drop x = c :: (asK u).drop (x + 1) := by obtain ⟨q1, q2⟩ := List.getElem?_eq_some_iff.1 hc; rw [List.drop_eq_getElem_cons q1, q2]
 rw [hdr] at hfe hbd
 rw [List.map_cons, List.sum_cons] at hbd
 have hbd : oo.length + ((ent h c.2.2).length + (((asK u).drop (x + 1)).map (fun (p : Kt h) => (ent h p.2.2).length)).sum) ≤ 1000000 := hbd
 refine J.skip <| At.next <| J.seq <| J.block <| J.seq <| J.sr <| JL.mv (t5 rfl) <| JL.rd (Rd.len Tryz.runUnderlying48 (t0 rfl)) <| JL.mv (t14 rfl) <| JL.rd (Rd.geq (t1 rfl) (t0 rfl)) <| JL.mv (t0 rfl) <| JL.caseD (t0 rfl) ?_ ?_
 intro hb2p hb2
 refine JL.skG rfl (EvB (t0 rfl) hb2) rfl <| JL.skG rfl (EvB (t1 rfl) hb2) rfl <| JL.skG rfl (EvB (t2 rfl) hb2) rfl <| JL.skU rfl (t0 rfl) <| JL.skU rfl (t1 rfl) <| JL.skG rfl (EvB (t5 rfl) hb2) rfl <| JL.skG rfl (EvB (t6 rfl) hb2) rfl <| JL.skU rfl (t0 rfl) <| JL.skU rfl (t1 rfl) <| JL.skU rfl (t2 rfl) <| JL.skU rfl (t3 rfl) <| JL.skU rfl (t4 rfl) <| JL.skU rfl (t5 rfl) <| JL.skU rfl (t6 rfl) <| JL.skG rfl (EvB (t14 rfl) hb2) rfl <| JL.rd (Rd.pickT (EvB (t15 rfl) hb2) Ev.c) <| JL.n2 <| J.condT (t0 rfl) <| J.exit <| At.nextX <| At.blkY rfl <| At.nextX <| At.loopX <| At.blkX <| At.blkN <| At.next <| J.seq <| J.live (K := [(5, _), (13, _), (12, _)]) ⟨(lk26 rfl), (lk28 rfl), (lk29 rfl), trivial⟩ ?_
 intro ρ3
 have hX : colX to mst x c.1 oo := by
   unfold colX
   first | (left; omega) | (right; refine ⟨by omega, ?_, ?_⟩ <;> simp_all)
 have hfin : (collT fr to mst (h + 1) u o) = oo := hfe.symm.trans (colK_stop (g := (fun (p : Kt h) (o : List It) => collT fr to mst h p.2.2 o)) (ky := (fun (p : Kt h) => p.1)) hX)
 exact J.region <| JL.mv (t0 rfl) <| JL.as (t0 rfl) <| JL.as Ev.c <| JL.nr <| At.ret ((ra, rc)) (trivial) (ResV.two rfl (t1 rfl) (t0 rfl)) (by rw [hfin]) (fun _ q => by rw [hfin]; exact Stars.sel (by repeat constructor) q)
 intro hb2p hb2
 refine JL.rdG rfl (EvB (t0 rfl) hb2) rfl (Rd.move (t9 rfl)) <| JL.rdG rfl (EvB (t1 rfl) hb2) rfl (Rd.gtr (t0 rfl) Ev.c) <| JL.rdG rfl (EvB (t2 rfl) hb2) rfl (Rd.move (t0 rfl)) <| JL.caseD (t0 rfl) ?_ ?_
 intro hb4p hb4
 refine JL.rdG rfl (EvB (t0 rfl) hb4) rfl (Rd.move (t19 rfl)) <| JL.rdG rfl (EvB (t1 rfl) hb4) rfl (Rd.str_neq (t0 rfl) Ev.c) <| JL.rdG rfl (EvB (t5 rfl) hb2) rfl (Rd.pickT (EvB (t2 rfl) hb4) (t0 rfl)) <| JL.rdG rfl (EvB (t6 rfl) hb2) rfl (Rd.move (t0 rfl)) <| JL.caseD (t0 rfl) ?_ ?_
 intro hb5p hb5
 refine JL.rdG rfl (EvB (t0 rfl) hb5) rfl (Rd.move (t18 rfl)) <| JL.rdG rfl (EvB (t1 rfl) hb5) rfl (Rd.move (t17 rfl)) <| JL.rdG rfl (EvB (t2 rfl) hb5) rfl (Rd.sIdx Tryz.runUnderlying89 Tryz.sizeOf91 (t1 rfl) (t0 rfl) (Src.i (by repeat constructor)) (by first | (simp; done) | (simp; omega) | omega | (simp [*]; done) | (simp [*]; omega)) (by omega) (by omega)) ?_
 refine JL.rdG rfl (EvB (t3 rfl) hb5) rfl (Rd.sFld0 fld_91_0 (t0 rfl) (Src.i (by repeat constructor)) (List.getElem?_eq_some_iff.1 hxk).1) ?_
 refine JL.rdG rfl (EvB (t4 rfl) hb5) rfl (Rd.sLd Tryz.isAgg9 (t0 rfl) (Src.i (by repeat constructor)) hxk rfl) ?_
 refine JL.rdG rfl (EvB (t5 rfl) hb5) rfl (Rd.move (t28 rfl)) <| JL.rdG rfl (EvB (t6 rfl) hb5) rfl (Rd.str_geq (t1 rfl) (t0 rfl)) <| JL.rdG rfl (EvB (t14 rfl) hb2) rfl (Rd.pickT (EvB (t7 rfl) hb5) (t0 rfl)) <| JL.rd (Rd.pickF (EvB (t15 rfl) hb2) (t0 rfl)) <| JL.n2 <| J.cond (t0 rfl) ?_ ?_
 intro hc6
 refine J.exit <| At.nextX <| At.blkY rfl <| At.nextX <| At.loopX <| At.blkX <| At.blkN <| At.next <| J.seq <| J.live (K := [(5, _), (13, _), (12, _)]) ⟨(lk26 rfl), (lk28 rfl), (lk29 rfl), trivial⟩ ?_
 intro ρ7
 have hX : colX to mst x c.1 oo := by
   unfold colX
   first | (left; omega) | (right; refine ⟨by omega, ?_, ?_⟩ <;> simp_all)
 have hfin : (collT fr to mst (h + 1) u o) = oo := hfe.symm.trans (colK_stop (g := (fun (p : Kt h) (o : List It) => collT fr to mst h p.2.2 o)) (ky := (fun (p : Kt h) => p.1)) hX)
 exact J.region <| JL.mv (t0 rfl) <| JL.as (t0 rfl) <| JL.as Ev.c <| JL.nr <| At.ret ((ra, rc)) (trivial) (ResV.two rfl (t1 rfl) (t0 rfl)) (by rw [hfin]) (fun _ q => by rw [hfin]; exact Stars.sel (by repeat constructor) q)
 intro hc6
 refine J.skip <| At.next <| J.seq <| J.live (K := [(20, _), (5, _), (19, _), (13, _), (12, _), (0, _), (2, _), (3, _), (4, _)]) ⟨(lk25 rfl), (lk26 rfl), (lk27 rfl), (lk28 rfl), (lk29 rfl), (lk30 rfl), (lk31 rfl), (lk32 rfl), (lk33 rfl), trivial⟩ ?_
 intro ρ8
 have hnx : ¬ colX to mst x c.1 oo := by
   unfold colX
   rintro (h9 | ⟨h7, h8, h9⟩)
   · omega
   · first | omega | (simp [*] at h8; done) | (simp [*] at h9; done) | (simp_all; done)
 have hcle := collT_le (fr := fr) (to := to) (most := mst) h c.2.2 oo
 have hbd2 : (collT fr to mst h c.2.2 oo).length + (((asK u).drop (x + 1)).map (fun (p : Kt h) => (ent h p.2.2).length)).sum ≤ 1000000 := by omega
 refine J.region <| JL.mv (t5 rfl) <| JL.mv (t3 rfl) <| JL.mv (t2 rfl) <| JL.rd (Rd.sIdx Tryz.runUnderlying89 Tryz.sizeOf91 (t1 rfl) (t0 rfl) (Src.i (by repeat constructor)) (by first | (simp; done) | (simp; omega) | omega | (simp [*]; done) | (simp [*]; omega)) (by omega) (by omega)) ?_
 refine JL.rd (Rd.sFld0 fld_91_1 (t0 rfl) (Src.i (by repeat constructor)) (List.getElem?_eq_some_iff.1 hxk).1) ?_
 refine JL.rd (Rd.sLd Tryz.isAgg3 (t0 rfl) (Src.i (by repeat constructor)) hxk rfl) ?_
 refine JL.mv (t12 rfl) <| JL.mv (t14 rfl) <| JL.mv (t16 rfl) <| JL.mv (t10 rfl) <| JL.ef (Ef.call (.cons (t9 rfl) (.cons (t4 rfl) (.cons (t3 rfl) (.cons (t2 rfl) (.cons (t1 rfl) (.cons (t0 rfl) .nil)))))) (ih c.2.2 c.2.1 oo ra rc (hsub c (List.mem_of_getElem? hc)) (by omega)) (by repeat constructor) ?_)
 rintro ⟨na, nc⟩ -
 simp only [cA, nA]
 refine JL.mv (t0 rfl) <| JL.e (t0 rfl) <| JL.e (t1 rfl) <| JL.as (t1 rfl) <| JL.as (t1 rfl) <| JL.n4 <| JL.mv (t0 rfl) <| JL.rd (Rd.neq (t0 rfl) Ev.c) <| JL.n2 <| J.condDF (t0 rfl) (by exact fun h => h rfl) ?_
 refine J.skip <| At.blkN <| At.next <| J.region <| JL.mv (t18 rfl) <| JL.rd (Rd.add (t0 rfl) Ev.c (w64 (by omega) (by omega))) ?_
 refine JL.as (t0 rfl) <| JL.nil <| At.again ((x + 1, collT fr to mst h c.2.2 oo, na, nc)) ?_ ?_ ⟨lk0.trans (by first | with_reducible rfl | (congr 1; omega) | (simp; done) | (simp [*]; done)), (lk6 rfl).trans (by first | with_reducible rfl | (congr 1; omega) | (simp; done) | (simp [*]; done)), trivial⟩ ⟨(lk23 rfl), (lk24 rfl), (lk25 rfl), (lk26 rfl), (lk27 rfl), (lk28 rfl), (lk29 rfl), trivial⟩ (fun _ => Stars.sel (by repeat constructor))
 exact ⟨by show x + 1 ≤ _; omega, (colK_go (g := (fun (p : Kt h) (o : List It) => collT fr to mst h p.2.2 o)) (ky := (fun (p : Kt h) => p.1)) hnx).symm.trans hfe, hbd2⟩
 show (asK u).length - (x + 1) < (asK u).length - x; omega
 intro hb5p hb5
 refine JL.skG rfl (EvB (t0 rfl) hb5) rfl <| JL.skG rfl (EvB (t1 rfl) hb5) rfl <| JL.skG rfl (EvB (t2 rfl) hb5) rfl <| JL.skG rfl (EvB (t3 rfl) hb5) rfl <| JL.skG rfl (EvB (t4 rfl) hb5) rfl <| JL.skG rfl (EvB (t5 rfl) hb5) rfl <| JL.skG rfl (EvB (t6 rfl) hb5) rfl <| JL.rdG rfl (EvB (t14 rfl) hb2) rfl (Rd.pickF (EvB (t7 rfl) hb5) Ev.c) <| JL.rd (Rd.pickF (EvB (t15 rfl) hb2) (t0 rfl)) <| JL.n2 <| J.condF (t0 rfl) <| J.skip <| At.next <| J.seq <| J.live (K := [(20, _), (5, _), (19, _), (13, _), (12, _), (0, _), (2, _), (3, _), (4, _)]) ⟨(lk25 rfl), (lk26 rfl), (lk27 rfl), (lk28 rfl), (lk29 rfl), (lk30 rfl), (lk31 rfl), (lk32 rfl), (lk33 rfl), trivial⟩ ?_
 intro ρ9
 have hnx : ¬ colX to mst x c.1 oo := by
   unfold colX
   rintro (h9 | ⟨h7, h8, h9⟩)
   · omega
   · first | omega | (simp [*] at h8; done) | (simp [*] at h9; done) | (simp_all; done)
 have hcle := collT_le (fr := fr) (to := to) (most := mst) h c.2.2 oo
 have hbd2 : (collT fr to mst h c.2.2 oo).length + (((asK u).drop (x + 1)).map (fun (p : Kt h) => (ent h p.2.2).length)).sum ≤ 1000000 := by omega
 refine J.region <| JL.mv (t5 rfl) <| JL.mv (t3 rfl) <| JL.mv (t2 rfl) <| JL.rd (Rd.sIdx Tryz.runUnderlying89 Tryz.sizeOf91 (t1 rfl) (t0 rfl) (Src.i (by repeat constructor)) (by first | (simp; done) | (simp; omega) | omega | (simp [*]; done) | (simp [*]; omega)) (by omega) (by omega)) ?_
 refine JL.rd (Rd.sFld0 fld_91_1 (t0 rfl) (Src.i (by repeat constructor)) (List.getElem?_eq_some_iff.1 hxk).1) ?_
 refine JL.rd (Rd.sLd Tryz.isAgg3 (t0 rfl) (Src.i (by repeat constructor)) hxk rfl) ?_
 refine JL.mv (t12 rfl) <| JL.mv (t14 rfl) <| JL.mv (t16 rfl) <| JL.mv (t10 rfl) <| JL.ef (Ef.call (.cons (t9 rfl) (.cons (t4 rfl) (.cons (t3 rfl) (.cons (t2 rfl) (.cons (t1 rfl) (.cons (t0 rfl) .nil)))))) (ih c.2.2 c.2.1 oo ra rc (hsub c (List.mem_of_getElem? hc)) (by omega)) (by repeat constructor) ?_)
 rintro ⟨na, nc⟩ -
 simp only [cA, nA]
 refine JL.mv (t0 rfl) <| JL.e (t0 rfl) <| JL.e (t1 rfl) <| JL.as (t1 rfl) <| JL.as (t1 rfl) <| JL.n4 <| JL.mv (t0 rfl) <| JL.rd (Rd.neq (t0 rfl) Ev.c) <| JL.n2 <| J.condDF (t0 rfl) (by exact fun h => h rfl) ?_
 refine J.skip <| At.blkN <| At.next <| J.region <| JL.mv (t18 rfl) <| JL.rd (Rd.add (t0 rfl) Ev.c (w64 (by omega) (by omega))) ?_
 refine JL.as (t0 rfl) <| JL.nil <| At.again ((x + 1, collT fr to mst h c.2.2 oo, na, nc)) ?_ ?_ ⟨lk0.trans (by first | with_reducible rfl | (congr 1; omega) | (simp; done) | (simp [*]; done)), (lk6 rfl).trans (by first | with_reducible rfl | (congr 1; omega) | (simp; done) | (simp [*]; done)), trivial⟩ ⟨(lk23 rfl), (lk24 rfl), (lk25 rfl), (lk26 rfl), (lk27 rfl), (lk28 rfl), (lk29 rfl), trivial⟩ (fun _ => Stars.sel (by repeat constructor))
 exact ⟨by show x + 1 ≤ _; omega, (colK_go (g := (fun (p : Kt h) (o : List It) => collT fr to mst h p.2.2 o)) (ky := (fun (p : Kt h) => p.1)) hnx).symm.trans hfe, hbd2⟩
 show (asK u).length - (x + 1) < (asK u).length - x; omega
 intro hb4p hb4
 refine JL.skG rfl (EvB (t0 rfl) hb4) rfl <| JL.skG rfl (EvB (t1 rfl) hb4) rfl <| JL.rdG rfl (EvB (t5 rfl) hb2) rfl (Rd.pickF (EvB (t2 rfl) hb4) Ev.c) <| JL.rdG rfl (EvB (t6 rfl) hb2) rfl (Rd.move (t0 rfl)) <| JL.skG rfl (t0 rfl) rfl <| JL.skG rfl (t1 rfl) rfl <| JL.skG rfl (t2 rfl) rfl <| JL.skG rfl (t3 rfl) rfl <| JL.skG rfl (t4 rfl) rfl <| JL.skG rfl (t5 rfl) rfl <| JL.skG rfl (t6 rfl) rfl <| JL.rdG rfl (EvB (t14 rfl) hb2) rfl (Rd.pickF (t7 rfl) Ev.c) <| JL.rd (Rd.pickF (EvB (t15 rfl) hb2) (t0 rfl)) <| JL.n2 <| J.condF (t0 rfl) <| J.skip <| At.next <| J.seq <| J.live (K := [(20, _), (5, _), (19, _), (13, _), (12, _), (0, _), (2, _), (3, _), (4, _)]) ⟨(lk25 rfl), (lk26 rfl), (lk27 rfl), (lk28 rfl), (lk29 rfl), (lk30 rfl), (lk31 rfl), (lk32 rfl), (lk33 rfl), trivial⟩ ?_
 intro ρ10
 have hnx : ¬ colX to mst x c.1 oo := by
   unfold colX
   rintro (h9 | ⟨h7, h8, h9⟩)
   · omega
   · first | omega | (simp [*] at h8; done) | (simp [*] at h9; done) | (simp_all; done)
 have hcle := collT_le (fr := fr) (to := to) (most := mst) h c.2.2 oo
 have hbd2 : (collT fr to mst h c.2.2 oo).length + (((asK u).drop (x + 1)).map (fun (p : Kt h) => (ent h p.2.2).length)).sum ≤ 1000000 := by omega
 refine J.region <| JL.mv (t5 rfl) <| JL.mv (t3 rfl) <| JL.mv (t2 rfl) <| JL.rd (Rd.sIdx Tryz.runUnderlying89 Tryz.sizeOf91 (t1 rfl) (t0 rfl) (Src.i (by repeat constructor)) (by first | (simp; done) | (simp; omega) | omega | (simp [*]; done) | (simp [*]; omega)) (by omega) (by omega)) ?_
 refine JL.rd (Rd.sFld0 fld_91_1 (t0 rfl) (Src.i (by repeat constructor)) (List.getElem?_eq_some_iff.1 hxk).1) ?_
 refine JL.rd (Rd.sLd Tryz.isAgg3 (t0 rfl) (Src.i (by repeat constructor)) hxk rfl) ?_
 refine JL.mv (t12 rfl) <| JL.mv (t14 rfl) <| JL.mv (t16 rfl) <| JL.mv (t10 rfl) <| JL.ef (Ef.call (.cons (t9 rfl) (.cons (t4 rfl) (.cons (t3 rfl) (.cons (t2 rfl) (.cons (t1 rfl) (.cons (t0 rfl) .nil)))))) (ih c.2.2 c.2.1 oo ra rc (hsub c (List.mem_of_getElem? hc)) (by omega)) (by repeat constructor) ?_)
 rintro ⟨na, nc⟩ -
 simp only [cA, nA]
 refine JL.mv (t0 rfl) <| JL.e (t0 rfl) <| JL.e (t1 rfl) <| JL.as (t1 rfl) <| JL.as (t1 rfl) <| JL.n4 <| JL.mv (t0 rfl) <| JL.rd (Rd.neq (t0 rfl) Ev.c) <| JL.n2 <| J.condDF (t0 rfl) (by exact fun h => h rfl) ?_
 refine J.skip <| At.blkN <| At.next <| J.region <| JL.mv (t18 rfl) <| JL.rd (Rd.add (t0 rfl) Ev.c (w64 (by omega) (by omega))) ?_
 refine JL.as (t0 rfl) <| JL.nil <| At.again ((x + 1, collT fr to mst h c.2.2 oo, na, nc)) ?_ ?_ ⟨lk0.trans (by first | with_reducible rfl | (congr 1; omega) | (simp; done) | (simp [*]; done)), (lk6 rfl).trans (by first | with_reducible rfl | (congr 1; omega) | (simp; done) | (simp [*]; done)), trivial⟩ ⟨(lk23 rfl), (lk24 rfl), (lk25 rfl), (lk26 rfl), (lk27 rfl), (lk28 rfl), (lk29 rfl), trivial⟩ (fun _ => Stars.sel (by repeat constructor))
 exact ⟨by show x + 1 ≤ _; omega, (colK_go (g := (fun (p : Kt h) (o : List It) => collT fr to mst h p.2.2 o)) (ky := (fun (p : Kt h) => p.1)) hnx).symm.trans hfe, hbd2⟩
 show (asK u).length - (x + 1) < (asK u).length - x; omega
 intro hc1
 obtain rfl : x = (asK u).length := by omega
 rw [List.drop_length] at hfe
 have hfin : (collT fr to mst (h + 1) u o) = oo := hfe.symm
 exact J.exit <| At.nextX <| At.loopX <| At.blkX <| At.blkN <| At.next <| J.sr <| JL.mv (t5 rfl) <| JL.as (t0 rfl) <| JL.as Ev.c <| JL.nr <| At.ret ((ra, rc)) (trivial) (ResV.two rfl (t1 rfl) (t0 rfl)) (by rw [hfin]) (fun _ q => by rw [hfin]; exact Stars.sel (by repeat constructor) q)

theorem coll_any (t d m : Nat) (root : Int) (D : Dk) (f : Nat) (sM : Bs) (fr to : Bs) (mst : Nat) (hd : D.down = false) : ∀ (h : Nat) (u : Tr h) (b : Nat) (o : List It) (oa : Option Addr) (oc : Nat), Hd f D sM h u b → o.length + (ent h u).length ≤ 1000000 → Fn Tryz.prog 36 [.pointer (some ⟨t, 0, none⟩), .int .i64 (b : Int), str fr, str to, .int .i64 (mst : Int), .slice oa o.length oc] [pts t (.cells [.pointer (some ⟨d, 0, none⟩), .pointer (some ⟨m, 0, none⟩), .int .i64 root].toArray 68), dk d D, row oa oc 64 2 (o.map itc)] (X := Option Addr × Nat) (fun _ => True) (fun x => .tuple #[.slice x.1 (collT fr to mst h u o).length x.2, .int .i64 0]) (fun x => [pts t (.cells [.pointer (some ⟨d, 0, none⟩), .pointer (some ⟨m, 0, none⟩), .int .i64 root].toArray 68), dk d D, row x.1 x.2 64 2 ((collT fr to mst h u o).map itc)]) := by
  intro h
  induction h with
  | zero => intro u b o oa oc hH hB; exact coll_leaf t d m root D f sM fr to mst hd u b o oa oc hH hB
  | succ h ih => intro u b o oa oc hH hB; exact coll_inner t d m root D f sM fr to mst hd h ih u b o oa oc hH hB
theorem coll_rt (t d m : Nat) (root : Int) (D : Dk) (f : Nat) (sM : Bs) (fr to : Bs) (mst : Nat) (hd : D.down = false) (rt : Rt) (hH : RHd f D sM rt) (hB : (entR rt).length ≤ 1000000) : Fn Tryz.prog 36 [.pointer (some ⟨t, 0, none⟩), .int .i64 (rootI rt), str fr, str to, .int .i64 (mst : Int), .slice none 0 0] [pts t (.cells [.pointer (some ⟨d, 0, none⟩), .pointer (some ⟨m, 0, none⟩), .int .i64 root].toArray 68), dk d D] (X := Option Addr × Nat) (fun _ => True) (fun x => .tuple #[.slice x.1 (colR fr to mst rt).length x.2, .int .i64 0]) (fun x => [pts t (.cells [.pointer (some ⟨d, 0, none⟩), .pointer (some ⟨m, 0, none⟩), .int .i64 root].toArray 68), dk d D, row x.1 x.2 64 2 ((colR fr to mst rt).map itc)]) := by
  match rt, hH, hB with
  | none, _, _ => exact (coll_none t d m root D (str fr) (str to) (.int .i64 (mst : Int)) [] none 0).cv (fun _ s => Stars.perm (List.perm_append_comm (l₁ := [_])) (row_nil 64 2 s)) (fun _ _ => rfl) fun _ _ _ s => s
  | some r, hH, hB => exact (coll_any t d m root D f sM fr to mst hd r.1 r.2.2 r.2.1 [] none 0 hH.2 (by simpa [entR] using hB)).cv (fun _ s => Stars.perm (List.perm_append_comm (l₁ := [_])) (row_nil 64 2 s)) (fun _ _ => rfl) fun _ _ _ s => s

set_option maxHeartbeats 400000 in
theorem range_any (t d m : Nat) (D : Dk) (f : Nat) (sM : Bs) (rt : Rt) (fr to : Bs) (most : Int) (hd : D.down = false) (hH : RHd f D sM rt) (hB : (entR rt).length ≤ 1000000) :
    Fn Tryz.prog 15 [.pointer (some ⟨t, 0, none⟩), str fr, str to, .int .i64 most] [pts t (.cells [.pointer (some ⟨d, 0, none⟩), .pointer (some ⟨m, 0, none⟩), .int .i64 (rootI rt)].toArray 68), dk d D] (X := Option Addr × Nat) (fun _ => True) (fun x => .tuple #[.slice x.1 (rangeR fr to most rt).length x.2, .int .i64 0]) (fun x => [pts t (.cells [.pointer (some ⟨d, 0, none⟩), .pointer (some ⟨m, 0, none⟩), .int .i64 (rootI rt)].toArray 68), dk d D, row x.1 x.2 64 2 ((rangeR fr to most rt).map itc)]) := by
 refine Fn.mk' (n := 32) (l := [(0, .pointer (some ⟨t, 0, none⟩)), (1, str fr), (2, str to), (3, .int .i64 most)]) (fn := Tryz.f15) Tryz.func15 (by kernel_rfl) rfl rfl (by simp) rfl ?_
 intro h0 w0
 refine J.sr <| JL.as Ev.c <| JL.as Ev.c <| JL.n5 <| JL.mv (t2 rfl) <| JL.rd (Rd.eqlNil (t0 rfl) Tryz.runUnderlying26) <| JL.n2 <| J.condF (EvB (t0 rfl) rfl) <| J.skip <| At.next <| J.seq <| J.sr <| JL.mv (t7 rfl) <| JL.rd (Rd.leq (t0 rfl) Ev.c) <| JL.n2 <| J.condD (t0 rfl) ?_ ?_
 intro hc1
 have hfin : (rangeR fr to most rt) = [] := rangeR_no hc1
 exact J.sr <| JL.as Ev.c <| JL.as Ev.c <| JL.nr <| At.nextR <| At.ret ((none, 0)) (trivial) (ResV.two rfl (t1 rfl) (t0 rfl)) (by rw [hfin]; try rfl) (fun _ q => by rw [hfin]; have s1 := row_nil 64 2 q; exact Stars.sel (by repeat constructor) s1)
 intro hc1
 obtain ⟨mst, rfl⟩ : ∃ k : Nat, most = (k : Int) := ⟨most.toNat, by omega⟩
 have hfin : rangeR fr to mst rt = colR fr to mst rt := rangeR_go hc1
 refine J.k4 <| JL.mv (t6 rfl) <| JL.mv (t7 rfl) <| JL.rd (Rd.nil (t0 rfl)) <| JL.rd ((by first | exact Rd.fld0 fld_68_2 (t0 rfl) | exact Rd.fld fld_68_2 (t0 rfl))) ?_
 refine JL.rd (Rd.ldN Tryz.isAgg3 (t0 rfl) (by repeat constructor) (by repeat constructor)) ?_
 refine JL.mv (t12 rfl) <| JL.mv (t14 rfl) <| JL.mv (t16 rfl) <| JL.ef (Ef.call (.cons (t7 rfl) (.cons (t3 rfl) (.cons (t2 rfl) (.cons (t1 rfl) (.cons (t0 rfl) (.cons Ev.c .nil)))))) (coll_rt t d m (rootI rt) D f sM fr to mst hd rt hH hB) (by repeat constructor) ?_)
 rintro ⟨ra, rc⟩ -
 simp only [cA, nA]
 refine JL.mv (t0 rfl) <| JL.e (t0 rfl) <| JL.e (t1 rfl) <| JL.as (t1 rfl) <| JL.as (t1 rfl) <| JL.n5 <| JL.mv (t0 rfl) <| JL.rd (Rd.neq (t0 rfl) Ev.c) <| JL.n2 <| J.condDF (t0 rfl) (by exact fun h => h rfl) ?_
 exact J.k4 <| JL.mv (t3 rfl) <| JL.as (t0 rfl) <| JL.as Ev.c <| JL.nr <| At.ret ((ra, rc)) (trivial) (ResV.two rfl (t1 rfl) (t0 rfl)) (by rw [hfin]; try rfl) (fun _ q => by rw [hfin]; exact Stars.sel (by repeat constructor) q)

set_option maxHeartbeats 400000 in
theorem root_any (t d m : Nat) (root : Int) :
    Fn Tryz.prog 11 [.pointer (some ⟨t, 0, none⟩)] [pts t (.cells [.pointer (some ⟨d, 0, none⟩), .pointer (some ⟨m, 0, none⟩), .int .i64 root].toArray 68)] (X := Unit) (fun _ => True) (fun _ => .int .i64 root) (fun _ => [pts t (.cells [.pointer (some ⟨d, 0, none⟩), .pointer (some ⟨m, 0, none⟩), .int .i64 root].toArray 68)]) := by
 refine Fn.mk' (n := 9) (l := [(0, .pointer (some ⟨t, 0, none⟩))]) (fn := Tryz.f11) Tryz.func11 (by kernel_rfl) rfl rfl (by simp) rfl ?_
 intro h0 w0
 refine J.sr <| JL.as Ev.c <| JL.n5 <| JL.mv (t1 rfl) <| JL.rd (Rd.eqlNil (t0 rfl) Tryz.runUnderlying26) <| JL.n2 <| J.condF (EvB (t0 rfl) rfl) <| J.k4 <| JL.mv (t3 rfl) <| JL.rd (Rd.nil (t0 rfl)) <| JL.rd ((by first | exact Rd.fld0 fld_68_2 (t0 rfl) | exact Rd.fld fld_68_2 (t0 rfl))) ?_
 refine JL.rd (Rd.ldN Tryz.isAgg3 (t0 rfl) (by repeat constructor) (by repeat constructor)) ?_
 exact JL.as (t0 rfl) <| JL.nr <| At.r (()) (trivial) (ResV.one rfl (t0 rfl)) rfl

set_option maxHeartbeats 400000 in
theorem tload_none (d m : Nat) :
    Fn Tryz.prog 20 [.pointer (some ⟨d, 0, none⟩), .pointer (some ⟨m, 0, none⟩), .int .i64 (-1)] [] (X := Nat) (fun _ => True) (fun x => .tuple #[.pointer (some ⟨x, 0, none⟩), .int .i64 0]) (fun x => [pts x (.cells [.pointer (some ⟨d, 0, none⟩), .pointer (some ⟨m, 0, none⟩), .int .i64 (-1)].toArray 68)]) := by
 refine Fn.mk' (n := 39) (l := [(0, .pointer (some ⟨d, 0, none⟩)), (1, .pointer (some ⟨m, 0, none⟩)), (2, .int .i64 (-1))]) (fn := Tryz.f20) Tryz.func20 (by kernel_rfl) rfl rfl (by simp) rfl ?_
 intro h0 w0
 refine J.sr <| JL.as Ev.c <| JL.as Ev.c <| JL.n5 <| JL.mv (t2 rfl) <| JL.rd (Rd.eqlNil (t0 rfl) Tryz.runUnderlying24) <| JL.mv (t0 rfl) <| JL.rdG rfl (EvB (t0 rfl) rfl) rfl (Rd.move (t6 rfl)) <| JL.rdG rfl (EvB (t1 rfl) rfl) rfl (Rd.eqlNil (t0 rfl) Tryz.runUnderlying25) <| JL.rd (Rd.pickF (EvB (t2 rfl) rfl) (t0 rfl)) <| JL.n2 <| J.condF (EvB (t0 rfl) rfl) <| J.k4 <| JL.mv (t8 rfl) <| JL.mv (t10 rfl) <| JL.mv (t12 rfl) <| JL.rd (Rd.buildS (.cons (t2 rfl) (.cons (t1 rfl) (.cons (t0 rfl) .nil))) bld_68 (by repeat (first | exact FillN.nil | apply FillN.one rfl rfl (by repeat constructor)))) ?_
 refine JL.ef (Ef.box (t0 rfl) rfl ?_)
 intro b1
 refine JL.as (t0 rfl) <| JL.n5 <| JL.mv (t16 rfl) <| JL.rd (Rd.eql (t0 rfl) Ev.c) <| JL.n2 <| J.condDT (t0 rfl) (by rfl) ?_
 exact J.sr <| JL.mv (t2 rfl) <| JL.as (t0 rfl) <| JL.as Ev.c <| JL.nr <| At.nextR <| At.r (b1) (trivial) (ResV.two rfl (t1 rfl) (t0 rfl)) rfl

set_option maxHeartbeats 400000 in
theorem tnew_any (d m : Nat) :
    Fn Tryz.prog 19 [.pointer (some ⟨d, 0, none⟩), .pointer (some ⟨m, 0, none⟩)] [] (X := Nat) (fun _ => True) (fun x => .tuple #[.pointer (some ⟨x, 0, none⟩), .int .i64 0]) (fun x => [pts x (.cells [.pointer (some ⟨d, 0, none⟩), .pointer (some ⟨m, 0, none⟩), .int .i64 (-1)].toArray 68)]) := by
 refine Fn.mk' (n := 11) (l := [(0, .pointer (some ⟨d, 0, none⟩)), (1, .pointer (some ⟨m, 0, none⟩))]) (fn := Tryz.f19) Tryz.func19 (by kernel_rfl) rfl rfl (by simp) rfl ?_
 intro h0 w0
 refine J.sr <| JL.as Ev.c <| JL.as Ev.c <| JL.n4 <| JL.mv (t2 rfl) <| JL.mv (t4 rfl) <| JL.ef (Ef.call (.cons (t1 rfl) (.cons (t0 rfl) (.cons Ev.c .nil))) (tload_none d m) (by repeat constructor) ?_)
 rintro x -
 simp only [cA, nA]
 exact JL.e (t0 rfl) <| JL.e (t1 rfl) <| JL.as (t1 rfl) <| JL.as (t1 rfl) <| JL.nr <| At.r (x) (trivial) (ResV.two rfl (t1 rfl) (t0 rfl)) rfl

theorem apply_rt (t d m f : Nat) (hf : f ≤ 1073741824) (key : Bs) (mk : List It) (hmk : ∀ e ∈ mk, itOk e) (hmk1 : mk.length ≤ 1) (gf : Nat) (caps : List Value) (Kc : Assn) (Qp : List It → Prop) (hE : ∀ (a : Option Addr) (cap : Nat) (l : List It), sorted l → l.length ≤ cap → l.length ≤ 10000 → Qp l → Fn Tryz.prog gf (.slice a l.length cap :: caps) [rowR a 2 (l.map itc), Kc] (X := Option Addr × Nat) (fun x => (edS mk key l).length ≤ x.2) (fun x => .slice x.1 (edS mk key l).length x.2) (fun x => [rowR x.1 2 ((edS mk key l).map itc), Kc])) (D : Dk) (s : Bs) (rt : Rt) (hH : RHd f D s rt) (hQ : Qp (leafR key rt)) (hok : StOk ⟨D, s, [], []⟩) (hgv : (applyT f key mk rt D s).2.1 = 0 → GiveOk f (applyT f key mk rt D s).1.s (applyT f key mk rt D s).1.gn) (hbt : ∀ bq ∈ (applyT f key mk rt D s).1.tk, bq ≤ 1099511627776) (hbd : (applyT f key mk rt D s).2.1 = 0 → ∀ bq ∈ (applyT f key mk rt D s).1.gn, bq ≤ 1099511627776) : Fn Tryz.prog 33 [.pointer (some ⟨t, 0, none⟩), str key, .func (.func gf) #[] caps.toArray] [pts t (.cells [.pointer (some ⟨d, 0, none⟩), .pointer (some ⟨m, 0, none⟩), .int .i64 (rootI rt)].toArray 68), dk d D, bm m f s, Kc] (X := Unit) (fun _ => True) (fun _ => .int .i64 (applyT f key mk rt D s).2.1) (fun _ => [pts t (.cells [.pointer (some ⟨d, 0, none⟩), .pointer (some ⟨m, 0, none⟩), .int .i64 (rootI (apR (applyT f key mk rt D s) rt))].toArray 68), dk d (applyT f key mk rt D s).1.D, bm m f (apS f (applyT f key mk rt D s)), Kc]) := by
  match rt, hH, hQ, hgv, hbt, hbd with
  | none, _, hQ, hgv, hbt, hbd => exact apply_none t d m f hf key mk hmk hmk1 gf caps Kc Qp hE D s hQ hok hgv hbt hbd
  | some ⟨h, b, tr⟩, hH, hQ, hgv, hbt, hbd => exact apply_some t d m f hf key mk hmk hmk1 gf caps Kc Qp hE D s h hH.1 tr b hH.2 hQ hok hgv hbt hbd
theorem apply_list (t d m f : Nat) (hf : f ≤ 1073741824) (key : Bs) (mk : List It) (hmk : ∀ e ∈ mk, itOk e) (hmk1 : mk.length ≤ 1) (gf : Nat) (caps : List Value) (L : List Assn) (Qp : List It → Prop) (hE : ∀ (a : Option Addr) (cap : Nat) (l : List It), sorted l → l.length ≤ cap → l.length ≤ 10000 → Qp l → Fn Tryz.prog gf (.slice a l.length cap :: caps) (rowR a 2 (l.map itc) :: L) (X := Option Addr × Nat) (fun x => (edS mk key l).length ≤ x.2) (fun x => .slice x.1 (edS mk key l).length x.2) (fun x => (rowR x.1 2 ((edS mk key l).map itc) :: L))) (D : Dk) (s : Bs) (rt : Rt) (hH : RHd f D s rt) (hQ : Qp (leafR key rt)) (hok : StOk ⟨D, s, [], []⟩) (hgv : (applyT f key mk rt D s).2.1 = 0 → GiveOk f (applyT f key mk rt D s).1.s (applyT f key mk rt D s).1.gn) (hbt : ∀ bq ∈ (applyT f key mk rt D s).1.tk, bq ≤ 1099511627776) (hbd : (applyT f key mk rt D s).2.1 = 0 → ∀ bq ∈ (applyT f key mk rt D s).1.gn, bq ≤ 1099511627776) : Fn Tryz.prog 33 [.pointer (some ⟨t, 0, none⟩), str key, .func (.func gf) #[] caps.toArray] ([pts t (.cells [.pointer (some ⟨d, 0, none⟩), .pointer (some ⟨m, 0, none⟩), .int .i64 (rootI rt)].toArray 68), dk d D, bm m f s] ++ L) (X := Unit) (fun _ => True) (fun _ => .int .i64 (applyT f key mk rt D s).2.1) (fun _ => [pts t (.cells [.pointer (some ⟨d, 0, none⟩), .pointer (some ⟨m, 0, none⟩), .int .i64 (rootI (apR (applyT f key mk rt D s) rt))].toArray 68), dk d (applyT f key mk rt D s).1.D, bm m f (apS f (applyT f key mk rt D s))] ++ L) := by
  refine (apply_rt t d m f hf key mk hmk hmk1 gf caps (Stars L) Qp (fun a cap l h1 h2 h3 h4 => ?_) D s rt hH hQ hok hgv hbt hbd).cv (fun _ st => by have s1 := Stars.wrap (l := L) (m := [pts t (.cells [.pointer (some ⟨d, 0, none⟩), .pointer (some ⟨m, 0, none⟩), .int .i64 (rootI rt)].toArray 68), dk d D, bm m f s]).2 st; exact s1) (fun _ _ => rfl) fun _ _ _ st => by have s1 : Stars ([pts t (.cells [.pointer (some ⟨d, 0, none⟩), .pointer (some ⟨m, 0, none⟩), .int .i64 (rootI (apR (applyT f key mk rt D s) rt))].toArray 68), dk d (applyT f key mk rt D s).1.D, bm m f (apS f (applyT f key mk rt D s))] ++ [Stars L]) _ := st; exact Stars.wrap.1 s1
  exact (hE a cap l h1 h2 h3 h4).cv (fun _ st => Stars.wrap (m := [rowR a 2 (l.map itc)]).1 st) (fun _ _ => rfl) fun x _ _ st => Stars.wrap (m := [rowR x.1 2 ((edS mk key l).map itc)]).2 st

set_option maxHeartbeats 400000 in
theorem put_any (t d m f : Nat) (hf : f ≤ 1073741824) (key val : Bs) (hk1 : 1 ≤ key.length) (hk2 : key.length ≤ 112) (hv : val.length ≤ 360) (D : Dk) (s : Bs) (rt : Rt) (hH : RHd f D s rt) (hok : StOk ⟨D, s, [], []⟩) (hgv : (applyT f key [(key, val)] rt D s).2.1 = 0 → GiveOk f (applyT f key [(key, val)] rt D s).1.s (applyT f key [(key, val)] rt D s).1.gn) (hbt : ∀ bq ∈ (applyT f key [(key, val)] rt D s).1.tk, bq ≤ 1099511627776) (hbd : (applyT f key [(key, val)] rt D s).2.1 = 0 → ∀ bq ∈ (applyT f key [(key, val)] rt D s).1.gn, bq ≤ 1099511627776) :
    Fn Tryz.prog 21 [.pointer (some ⟨t, 0, none⟩), str key, str val] [pts t (.cells [.pointer (some ⟨d, 0, none⟩), .pointer (some ⟨m, 0, none⟩), .int .i64 (rootI rt)].toArray 68), dk d D, bm m f s] (X := Unit) (fun _ => True) (fun _ => .int .i64 (applyT f key [(key, val)] rt D s).2.1) (fun _ => [pts t (.cells [.pointer (some ⟨d, 0, none⟩), .pointer (some ⟨m, 0, none⟩), .int .i64 (rootI (apR (applyT f key [(key, val)] rt D s) rt))].toArray 68), dk d (applyT f key [(key, val)] rt D s).1.D, bm m f (apS f (applyT f key [(key, val)] rt D s))]) := by
 refine Fn.mk' (n := 26) (l := [(0, .pointer (some ⟨t, 0, none⟩)), (1, str key), (2, str val)]) (fn := Tryz.f21) Tryz.func21 (by kernel_rfl) rfl rfl (by simp) rfl ?_
 intro h0 w0
 have hk0 : ¬ key = [] := fun e => by rw [e] at hk1; exact absurd hk1 (by decide)
 refine J.sr <| JL.ef (Ef.box (t1 rfl) rfl ?_)
 intro b1
 refine JL.ef (Ef.box (t3 rfl) rfl ?_)
 intro b2
 refine JL.as Ev.c <| JL.ns <| J.block <| J.sr <| JL.mv (t3 rfl) <| JL.rd (Rd.eqlNil (t0 rfl) Tryz.runUnderlying26) <| JL.as (t0 rfl) <| JL.n2 <| J.condF (EvB (t0 rfl) rfl) <| J.sr <| JL.rd (Rd.ldN Tryz.isAgg9 (t5 rfl) (by repeat constructor) (by repeat constructor)) ?_
 refine JL.rd (Rd.str_eql (t0 rfl) Ev.c) <| JL.as (t0 rfl) <| JL.n2 <| J.condDF (t0 rfl) (by exact hk0) ?_
 refine J.sr <| JL.rd (Rd.ldN Tryz.isAgg9 (t8 rfl) (by repeat constructor) (by repeat constructor)) ?_
 refine JL.rd (Rd.lenStr Tryz.runUnderlying9 (t0 rfl)) <| JL.rd (Rd.gtr (t0 rfl) Ev.c) <| JL.mv (t0 rfl) <| JL.rdG rfl (EvB (t0 rfl) (decide_eq_false (by omega))) rfl (Rd.ldN Tryz.isAgg9 (t11 rfl) (by repeat constructor) (by repeat constructor)) ?_
 refine JL.rdG rfl (EvB (t1 rfl) (decide_eq_false (by omega))) rfl (Rd.lenStr Tryz.runUnderlying9 (t0 rfl)) ?_
 refine JL.rdG rfl (EvB (t2 rfl) (decide_eq_false (by omega))) rfl (Rd.gtr (t0 rfl) Ev.c) ?_
 refine JL.rd (Rd.pickF (EvB (t3 rfl) (decide_eq_false (by omega))) (t0 rfl)) ?_
 refine JL.as (t0 rfl) <| JL.n2 <| J.condF (EvB (t0 rfl) (decide_eq_false (by omega))) ?_
 refine J.skip <| At.blkN <| At.next <| J.sr <| JL.mv (t18 rfl) <| JL.rd (Rd.ldN Tryz.isAgg9 (t18 rfl) (by repeat constructor) (by repeat constructor)) ?_
 refine JL.rd (Rd.mkfunc .nil (.cons (t19 rfl) (.cons (t18 rfl) .nil))) <| JL.ef (Ef.call (.cons (t2 rfl) (.cons (t1 rfl) (.cons (t0 rfl) .nil))) (apply_list t d m f hf key [(key, val)] (by simp [itOk]; omega) (Nat.le_refl _) 42 [.pointer (some ⟨b1, 0, none⟩), .pointer (some ⟨b2, 0, none⟩)] [pts b1 (.cells [str key].toArray 9), pts b2 (.cells [str val].toArray 9)] (fun _ => True) (fun a cap l h1 h2 h3 _ => put1_any b1 b2 key val a cap l h1 h2 h3) D s rt hH trivial hok hgv hbt hbd) (by repeat constructor) ?_)
 rintro - -
 simp only [cA, nA]
 exact JL.as (t0 rfl) <| JL.nr <| At.r (()) (trivial) (ResV.one rfl (t0 rfl)) rfl

set_option maxHeartbeats 400000 in
theorem put_short (t d m : Nat) (root : Int) (val : Bs) :
    Fn Tryz.prog 21 [.pointer (some ⟨t, 0, none⟩), str [], str val] [pts t (.cells [.pointer (some ⟨d, 0, none⟩), .pointer (some ⟨m, 0, none⟩), .int .i64 root].toArray 68)] (X := Unit) (fun _ => True) (fun _ => .int .i64 4) (fun _ => [pts t (.cells [.pointer (some ⟨d, 0, none⟩), .pointer (some ⟨m, 0, none⟩), .int .i64 root].toArray 68)]) := by
 refine Fn.mk' (n := 26) (l := [(0, .pointer (some ⟨t, 0, none⟩)), (1, str []), (2, str val)]) (fn := Tryz.f21) Tryz.func21 (by kernel_rfl) rfl rfl (by simp) rfl ?_
 intro h0 w0
 refine J.sr <| JL.ef (Ef.box (t1 rfl) rfl ?_)
 intro b1
 refine JL.ef (Ef.box (t3 rfl) rfl ?_)
 intro b2
 refine JL.as Ev.c <| JL.ns <| J.block <| J.sr <| JL.mv (t3 rfl) <| JL.rd (Rd.eqlNil (t0 rfl) Tryz.runUnderlying26) <| JL.as (t0 rfl) <| JL.n2 <| J.condF (EvB (t0 rfl) rfl) <| J.sr <| JL.rd (Rd.ldN Tryz.isAgg9 (t5 rfl) (by repeat constructor) (by repeat constructor)) ?_
 refine JL.rd (Rd.str_eql (t0 rfl) Ev.c) <| JL.as (t0 rfl) <| JL.n2 <| J.condDT (t0 rfl) (by rfl) ?_
 exact J.sr <| JL.as Ev.c <| JL.nr <| At.blkR <| At.nextR <| At.r (()) (trivial) (ResV.one rfl (t0 rfl)) rfl

set_option maxHeartbeats 400000 in
theorem put_long (t d m : Nat) (root : Int) (key val : Bs) (hk : key ≠ []) (hl : 112 < key.length ∨ 360 < val.length) :
    Fn Tryz.prog 21 [.pointer (some ⟨t, 0, none⟩), str key, str val] [pts t (.cells [.pointer (some ⟨d, 0, none⟩), .pointer (some ⟨m, 0, none⟩), .int .i64 root].toArray 68)] (X := Unit) (fun _ => True) (fun _ => .int .i64 5) (fun _ => [pts t (.cells [.pointer (some ⟨d, 0, none⟩), .pointer (some ⟨m, 0, none⟩), .int .i64 root].toArray 68)]) := by
 refine Fn.mk' (n := 26) (l := [(0, .pointer (some ⟨t, 0, none⟩)), (1, str key), (2, str val)]) (fn := Tryz.f21) Tryz.func21 (by kernel_rfl) rfl rfl (by simp) rfl ?_
 intro h0 w0
 refine J.sr <| JL.ef (Ef.box (t1 rfl) rfl ?_)
 intro b1
 refine JL.ef (Ef.box (t3 rfl) rfl ?_)
 intro b2
 refine JL.as Ev.c <| JL.ns <| J.block <| J.sr <| JL.mv (t3 rfl) <| JL.rd (Rd.eqlNil (t0 rfl) Tryz.runUnderlying26) <| JL.as (t0 rfl) <| JL.n2 <| J.condF (EvB (t0 rfl) rfl) <| J.sr <| JL.rd (Rd.ldN Tryz.isAgg9 (t5 rfl) (by repeat constructor) (by repeat constructor)) ?_
 refine JL.rd (Rd.str_eql (t0 rfl) Ev.c) <| JL.as (t0 rfl) <| JL.n2 <| J.condDF (t0 rfl) (by exact hk) ?_
 refine J.sr <| JL.rd (Rd.ldN Tryz.isAgg9 (t8 rfl) (by repeat constructor) (by repeat constructor)) ?_
 refine JL.rd (Rd.lenStr Tryz.runUnderlying9 (t0 rfl)) <| JL.rd (Rd.gtr (t0 rfl) Ev.c) <| JL.mv (t0 rfl) <| JL.caseD (t0 rfl) ?_ ?_
 intro hb3p hb3
 exact JL.skG rfl (EvB (t0 rfl) hb3) rfl <| JL.skG rfl (EvB (t1 rfl) hb3) rfl <| JL.skG rfl (EvB (t2 rfl) hb3) rfl <| JL.rd (Rd.pickT (EvB (t3 rfl) hb3) Ev.c) <| JL.as (t0 rfl) <| JL.n2 <| J.condT (t0 rfl) <| J.sr <| JL.as Ev.c <| JL.nr <| At.blkR <| At.nextR <| At.r (()) (trivial) (ResV.one rfl (t0 rfl)) rfl
 intro hb3p hb3
 refine JL.rdG rfl (EvB (t0 rfl) hb3) rfl (Rd.ldN Tryz.isAgg9 (t11 rfl) (by repeat constructor) (by repeat constructor)) ?_
 refine JL.rdG rfl (EvB (t1 rfl) hb3) rfl (Rd.lenStr Tryz.runUnderlying9 (t0 rfl)) <| JL.rdG rfl (EvB (t2 rfl) hb3) rfl (Rd.gtr (t0 rfl) Ev.c) <| JL.rd (Rd.pickF (EvB (t3 rfl) hb3) (t0 rfl)) <| JL.as (t0 rfl) <| JL.n2 <| J.condD (t0 rfl) ?_ ?_
 intro hc4
 exact J.sr <| JL.as Ev.c <| JL.nr <| At.blkR <| At.nextR <| At.r (()) (trivial) (ResV.one rfl (t0 rfl)) rfl
 intro hc4
 omega

theorem get_rt (t d m : Nat) (key : Bs) (D : Dk) (rt : Rt) (hH : RHr D rt) : Fn Tryz.prog 12 [.pointer (some ⟨t, 0, none⟩), str key] [pts t (.cells [.pointer (some ⟨d, 0, none⟩), .pointer (some ⟨m, 0, none⟩), .int .i64 (rootI rt)].toArray 68), dk d D] (X := Unit) (fun _ => True) (fun _ => .tuple #[str ((getR key D rt).2.getD []), .bool (getR key D rt).2.isSome, .int .i64 (getR key D rt).1]) (fun _ => [pts t (.cells [.pointer (some ⟨d, 0, none⟩), .pointer (some ⟨m, 0, none⟩), .int .i64 (rootI rt)].toArray 68), dk d D]) := by
  match rt, hH with
  | none, _ => exact get_none t d m key D
  | some r, hH => exact get_some t d m key D r.1 r.2.2 r.2.1 hH.2

set_option maxHeartbeats 400000 in
theorem delete_no (t d m : Nat) (key : Bs) (D : Dk) (rt : Rt) (hH : RHr D rt) (hn : (getR key D rt).1 ≠ 0 ∨ (getR key D rt).2 = none) :
    Fn Tryz.prog 14 [.pointer (some ⟨t, 0, none⟩), str key] [pts t (.cells [.pointer (some ⟨d, 0, none⟩), .pointer (some ⟨m, 0, none⟩), .int .i64 (rootI rt)].toArray 68), dk d D] (X := Unit) (fun _ => True) (fun _ => .tuple #[.bool false, .int .i64 (getR key D rt).1]) (fun _ => [pts t (.cells [.pointer (some ⟨d, 0, none⟩), .pointer (some ⟨m, 0, none⟩), .int .i64 (rootI rt)].toArray 68), dk d D]) := by
 refine Fn.mk' (n := 30) (l := [(0, .pointer (some ⟨t, 0, none⟩)), (1, str key)]) (fn := Tryz.f14) Tryz.func14 (by kernel_rfl) rfl rfl (by simp) rfl ?_
 intro h0 w0
 refine J.sr <| JL.ef (Ef.box (t1 rfl) rfl ?_)
 intro b1
 refine JL.as Ev.c <| JL.as Ev.c <| JL.n4 <| JL.mv (t3 rfl) <| JL.rd (Rd.ldN Tryz.isAgg9 (t3 rfl) (by repeat constructor) (by repeat constructor)) ?_
 refine JL.ef (Ef.call (.cons (t1 rfl) (.cons (t0 rfl) .nil)) (get_rt t d m key D rt hH) (by repeat constructor) ?_)
 rintro - -
 simp only [cA, nA]
 refine JL.mv (t0 rfl) <| JL.e (t0 rfl) <| JL.e (t1 rfl) <| JL.e (t2 rfl) <| JL.as (t2 rfl) <| JL.as (t2 rfl) <| JL.as (t2 rfl) <| JL.n5 <| JL.mv (t0 rfl) <| JL.rd (Rd.neq (t0 rfl) Ev.c) <| JL.mv (t0 rfl) <| JL.caseD (t0 rfl) ?_ ?_
 intro hb2p hb2
 exact JL.skG rfl (EvB (t0 rfl) hb2) rfl <| JL.skG rfl (EvB (t1 rfl) hb2) rfl <| JL.rd (Rd.pickT (EvB (t2 rfl) hb2) Ev.c) <| JL.n2 <| J.condT (t0 rfl) <| J.sr <| JL.mv (t6 rfl) <| JL.as Ev.c <| JL.as (t1 rfl) <| JL.nr <| At.nextR <| At.r (()) (trivial) (ResV.two rfl (t1 rfl) (t0 rfl)) rfl
 intro hb2p hb2
 refine JL.rdG rfl (EvB (t0 rfl) hb2) rfl (Rd.move (t4 rfl)) <| JL.rdG rfl (EvB (t1 rfl) hb2) rfl (Rd.not (t0 rfl)) <| JL.rd (Rd.pickF (EvB (t2 rfl) hb2) (t0 rfl)) <| JL.n2 <| J.cond (t0 rfl) ?_ ?_
 intro hc3
 exact J.sr <| JL.mv (t6 rfl) <| JL.as Ev.c <| JL.as (t1 rfl) <| JL.nr <| At.nextR <| At.r (()) (trivial) (ResV.two rfl (t1 rfl) (t0 rfl)) rfl
 intro hc3
 rcases hn with hn | hn <;> first | omega | (simp_all; done)

set_option maxHeartbeats 400000 in
theorem delete_yes (t d m f : Nat) (hf : f ≤ 1073741824) (key : Bs) (D : Dk) (s : Bs) (rt : Rt) (hH : RHd f D s rt) (hok : StOk ⟨D, s, [], []⟩) (hgv : (applyT f key [] rt D s).2.1 = 0 → GiveOk f (applyT f key [] rt D s).1.s (applyT f key [] rt D s).1.gn) (hbt : ∀ bq ∈ (applyT f key [] rt D s).1.tk, bq ≤ 1099511627776) (hbd : (applyT f key [] rt D s).2.1 = 0 → ∀ bq ∈ (applyT f key [] rt D s).1.gn, bq ≤ 1099511627776) (v : Bs) (hg : (getR key D rt) = (0, some v)) :
    Fn Tryz.prog 14 [.pointer (some ⟨t, 0, none⟩), str key] [pts t (.cells [.pointer (some ⟨d, 0, none⟩), .pointer (some ⟨m, 0, none⟩), .int .i64 (rootI rt)].toArray 68), dk d D, bm m f s] (X := Unit) (fun _ => True) (fun _ => .tuple #[.bool (decide ((applyT f key [] rt D s).2.1 = 0)), .int .i64 (applyT f key [] rt D s).2.1]) (fun _ => [pts t (.cells [.pointer (some ⟨d, 0, none⟩), .pointer (some ⟨m, 0, none⟩), .int .i64 (rootI (apR (applyT f key [] rt D s) rt))].toArray 68), dk d (applyT f key [] rt D s).1.D, bm m f (apS f (applyT f key [] rt D s))]) := by
 refine Fn.mk' (n := 30) (l := [(0, .pointer (some ⟨t, 0, none⟩)), (1, str key)]) (fn := Tryz.f14) Tryz.func14 (by kernel_rfl) rfl rfl (by simp) rfl ?_
 intro h0 w0
 refine J.sr <| JL.ef (Ef.box (t1 rfl) rfl ?_)
 intro b1
 refine JL.as Ev.c <| JL.as Ev.c <| JL.n4 <| JL.mv (t3 rfl) <| JL.rd (Rd.ldN Tryz.isAgg9 (t3 rfl) (by repeat constructor) (by repeat constructor)) ?_
 refine JL.ef (Ef.call (.cons (t1 rfl) (.cons (t0 rfl) .nil)) (get_rt t d m key D rt hH.hr) (by repeat constructor) ?_)
 rintro - -
 rw [hg]
 simp only [cA, nA]
 refine JL.mv (t0 rfl) <| JL.e (t0 rfl) <| JL.e (t1 rfl) <| JL.e (t2 rfl) <| JL.as (t2 rfl) <| JL.as (t2 rfl) <| JL.as (t2 rfl) <| JL.n5 <| JL.mv (t0 rfl) <| JL.rd (Rd.neq (t0 rfl) Ev.c) <| JL.mv (t0 rfl) <| JL.rdG rfl (EvB (t0 rfl) rfl) rfl (Rd.move (t4 rfl)) <| JL.rdG rfl (EvB (t1 rfl) rfl) rfl (Rd.not (EvB (t0 rfl) rfl)) <| JL.rd (Rd.pickF (EvB (t2 rfl) rfl) (t0 rfl)) <| JL.n2 <| J.condF (EvB (t0 rfl) rfl) <| J.k4 <| JL.mv (t19 rfl) <| JL.rd (Rd.ldN Tryz.isAgg9 (t19 rfl) (by repeat constructor) (by repeat constructor)) ?_
 refine JL.rd (Rd.mkfunc .nil (.cons (t20 rfl) .nil)) <| JL.ef (Ef.call (.cons (t2 rfl) (.cons (t1 rfl) (.cons (t0 rfl) .nil))) (apply_list t d m f hf key [] (fun e he => by cases he) (Nat.zero_le _) 34 [.pointer (some ⟨b1, 0, none⟩)] [pts b1 (.cells [str key].toArray 9)] (fun l => hasF l key = true) (fun a cap l h1 h2 h3 h4 => delete1_any b1 key a cap l h1 h2 h3 h4) D s rt hH (getR_has (by rw [hg])) hok hgv hbt hbd) (by repeat constructor) ?_)
 rintro - -
 simp only [cA, nA]
 exact JL.as (t0 rfl) <| JL.n4 <| JL.mv (t0 rfl) <| JL.rd (Rd.eql (t0 rfl) Ev.c) <| JL.mv (t2 rfl) <| JL.as (t1 rfl) <| JL.as (t1 rfl) <| JL.nr <| At.r (()) (trivial) (ResV.two rfl (t1 rfl) (t0 rfl)) rfl
end Go.Proofs.YtbhladkbnleeoaaGreat

namespace Go.Proofs.YtbhladkbnleeoaaGreat
theorem fld_28_0 : Fld Tryz.prog 28 0 0 := fun a w => by kernel_rfl
theorem fld_28_1 : Fld Tryz.prog 28 1 1 := fun a w => by kernel_rfl
theorem fld_28_2 : Fld Tryz.prog 28 2 2 := fun a w => by kernel_rfl
theorem fld_42_1 : Fld Tryz.prog 42 1 1 := fun a w => by kernel_rfl
theorem fld_42_3 : Fld Tryz.prog 42 3 3 := fun a w => by kernel_rfl
theorem fld_42_5 : Fld Tryz.prog 42 5 5 := fun a w => by kernel_rfl
theorem fld_42_6 : Fld Tryz.prog 42 6 6 := fun a w => by kernel_rfl
theorem bld_28 : Bld Tryz.prog 28 [.pointer none, .pointer none, .pointer none] [(0, 1), (1, 1), (2, 1)] := Bld.mk Tryz.zeroValue28 rfl Tryz.runUnderlying28 (fun w => by kernel_rfl)
end Go.Proofs.YtbhladkbnleeoaaGreat

