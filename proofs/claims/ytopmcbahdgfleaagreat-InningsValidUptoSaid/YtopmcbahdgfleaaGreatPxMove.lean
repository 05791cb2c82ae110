/-
Px: what is said over one environment, said over another; contracts out of the executor.
-/
import Derived.Test.YtopmcbahdgfleaaGreatPxValid
namespace Go.Px
set_option linter.unusedVariables false
set_option linter.unusedSimpArgs false

section
variable {E E' : Env} {N N' : Nat} {P : Program} {n0 : Nz} {σ : Nat → Option (Nat × Nat)} {w : World}

def AC.re : AC (std E N) → AC (std E' N')
  | .int k i => .int k i
  | .bool b => .bool b
  | .str s => .str s
  | .nil e => .nil e
  | .imm e nw l => .imm e nw l
  | .own e id => .own e id
  | .ptr b off => .ptr b off
  | .aptr b off n sz i inner => .aptr b off n sz i inner
  | .eptr id i off => .eptr id i off
  | .iptr e nw l i off => .iptr e nw l i off
  | .fn f caps => .fn f caps
  | .nilptr => .nilptr
def Val.re (v : Val (std E N)) : Val (std E' N') := { agg := v.agg, cs := v.cs.map AC.re }
def AV.re : AV (std E N) → AV (std E' N')
  | .val v => .val v.re
  | .tup vs => .tup (vs.map Val.re)
def HEnt.re (h : HEnt (std E N)) : HEnt (std E' N') := { e := h.e, frozen := h.frozen, nw := h.nw, l := h.l, dirty := h.dirty }
def reH (hs : List (Nat × HEnt (std E N))) : List (Nat × HEnt (std E' N')) := hs.map fun (n, h) => (n, h.re)

variable {hs : List (Nat × HEnt (std E N))}

theorem getH_re (n : Nat) : (hpSt (reH hs : List (Nat × HEnt (std E' N')))).getH n = ((hpSt hs).getH n).map HEnt.re := alGet_map HEnt.re hs n

theorem getH_re_some {n : Nat} {h' : HEnt (std E' N')} (h : (hpSt (reH hs : List (Nat × HEnt (std E' N')))).getH n = some h') : ∃ h0, (hpSt hs).getH n = some h0 ∧ h' = h0.re := by
  rw [getH_re] at h
  obtain ⟨h0, h1, h2⟩ := Option.map_eq_some_iff.1 h
  exact ⟨h0, h1, h2.symm⟩

theorem inM_re {b : Nat} : InM noB σ (hpSt (reH hs : List (Nat × HEnt (std E' N')))) b ↔ InM noB σ (hpSt hs) b := by
  constructor
  · rintro (⟨n, e, h, _⟩ | ⟨n, h, cap, h1, h2, h3⟩)
    · cases h
    · obtain ⟨h0, h4, rfl⟩ := getH_re_some h1
      exact .inr ⟨n, h0, cap, h4, h2, h3⟩
  · rintro (⟨n, e, h, _⟩ | ⟨n, h, cap, h1, h2, h3⟩)
    · cases h
    · exact .inr ⟨n, h.re, cap, by rw [getH_re, h1]; rfl, h2, h3⟩

theorem stB_re {nw : Bool} {b : Nat} (h : StB n0 noB σ (hpSt hs) nw b) : StB n0 noB σ (hpSt (reH hs : List (Nat × HEnt (std E' N')))) nw b := ⟨fun hm => h.1 (inM_re.1 hm), h.2⟩

theorem RelC.re {c : AC (std E N)} {v : Value} (h : RelC P n0 noB σ (hpSt hs) w c v) : RelC P n0 noB σ (hpSt (reH hs : List (Nat × HEnt (std E' N')))) w c.re v := by
  cases c with
  | int k i => exact h
  | bool b => exact h
  | str s => exact h
  | nil e => exact h
  | nilptr => exact h
  | imm e nw l => obtain ⟨t, ht, hr⟩ := h; exact ⟨t, ht, hr.st (fun b hb => stB_re hb)⟩
  | own e id =>
    obtain ⟨h1, h2⟩ := h
    refine ⟨h1, fun h' hh => ?_⟩
    obtain ⟨h0, h3, rfl⟩ := getH_re_some hh
    exact h2 h0 h3
  | ptr b off => obtain ⟨blk, h1, h2⟩ := h; exact ⟨blk, h1, fun e he => by cases he⟩
  | aptr b off n sz i inner => obtain ⟨h0, h1, blk, h2, h3⟩ := h; exact ⟨h0, h1, blk, h2, fun e he => by cases he⟩
  | eptr id i off =>
    obtain ⟨h0, blk, o, hv, hk⟩ := h
    refine ⟨h0, blk, o, hv, fun h' hh => ?_⟩
    obtain ⟨h1, h3, rfl⟩ := getH_re_some hh
    exact hk h1 h3
  | iptr e nw l i off =>
    obtain ⟨h0, h1, t, ts, blk, boff, len, cap, ht, hts, hr, hv⟩ := h
    exact ⟨h0, h1, t, ts, blk, boff, len, cap, ht, hts, hr.st (fun b hb => stB_re hb), hv⟩
  | fn f caps =>
    obtain ⟨vs, hv, hl, hp⟩ := h
    refine ⟨vs, hv, hl, fun i b o hc => ?_⟩
    obtain ⟨y, hy, blk, h2, h3⟩ := hp i b o hc
    exact ⟨y, hy, blk, h2, fun e he => by cases he⟩

theorem RelCs.re : ∀ {cs : List (AC (std E N))} {vs : List Value}, RelCs P n0 noB σ (hpSt hs) w cs vs → RelCs P n0 noB σ (hpSt (reH hs : List (Nat × HEnt (std E' N')))) w (cs.map AC.re) vs
  | [], [], _ => trivial
  | c :: cs, v :: vs, h => ⟨h.1.re, RelCs.re h.2⟩
  | [], _ :: _, h => h.elim
  | _ :: _, [], h => h.elim
theorem RelVal.re {x : Val (std E N)} {v : Value} (h : RelVal P n0 noB σ (hpSt hs) w x v) : RelVal P n0 noB σ (hpSt (reH hs : List (Nat × HEnt (std E' N')))) w x.re v := ⟨RelCs.re h.1, h.2⟩
theorem RelVals.re : ∀ {cs : List (Val (std E N))} {vs : List Value}, RelVals P n0 noB σ (hpSt hs) w cs vs → RelVals P n0 noB σ (hpSt (reH hs : List (Nat × HEnt (std E' N')))) w (cs.map Val.re) vs
  | [], [], _ => trivial
  | c :: cs, v :: vs, h => ⟨h.1.re, RelVals.re h.2⟩
  | [], _ :: _, h => h.elim
  | _ :: _, [], h => h.elim
theorem RelAV.re {x : AV (std E N)} {v : Value} (h : RelAV P n0 noB σ (hpSt hs) w x v) : RelAV P n0 noB σ (hpSt (reH hs : List (Nat × HEnt (std E' N')))) w x.re v := by
  cases x with
  | val x => exact RelVal.re (x := x) h
  | tup xs => obtain ⟨vs, h1, h2⟩ := h; exact ⟨vs, h1, h2.re⟩
theorem RelArgs.re : ∀ {xs : List (AV (std E N))} {vs : List Value}, RelArgs P n0 noB σ (hpSt hs) w xs vs → RelArgs P n0 noB σ (hpSt (reH hs : List (Nat × HEnt (std E' N')))) w (xs.map AV.re) vs
  | [], [], _ => trivial
  | c :: cs, v :: vs, h => ⟨h.1.re, RelArgs.re h.2⟩
  | [], _ :: _, h => h.elim
  | _ :: _, [], h => h.elim

theorem Mem.re (m : Mem P n0 noB σ (hpSt hs) w) : Mem P n0 noB σ (hpSt (reH hs : List (Nat × HEnt (std E' N')))) w := by
  refine ⟨fun n e he => (by cases he), fun n h' hh => ?_, fun b b' e e' blk he => (by cases he), fun n n' h h' blk cap cap' hh hh' => ?_, fun b e n h blk cap he => (by cases he)⟩
  · obtain ⟨h0, h1, rfl⟩ := getH_re_some hh
    obtain ⟨t, ts, h2, h3, h4, h5⟩ := m.H n h0 h1
    refine ⟨t, ts, h2, h3, h4, ?_⟩
    rcases h5 with h5 | ⟨blk, cap, cells, el, a1, a2, a3, a4, a5, a6, v, a7, a8⟩
    · exact .inl h5
    · exact .inr ⟨blk, cap, cells, el, a1, a2, a3, a4, a5, a6, v, a7, fun i j t' hi hj => (a8 i j t' hi hj).st (fun b hb => stB_re hb)⟩
  · obtain ⟨h0, h1, rfl⟩ := getH_re_some hh
    obtain ⟨h0', h1', rfl⟩ := getH_re_some hh'
    exact m.uH n n' h0 h0' blk cap cap' h1 h1'

theorem reH_append (a b : List (Nat × HEnt (std E N))) : (reH (a ++ b) : List (Nat × HEnt (std E' N'))) = reH a ++ reH b := by simp [reH]
theorem reH_length (a : List (Nat × HEnt (std E N))) : (reH a : List (Nat × HEnt (std E' N'))).length = a.length := by simp [reH]

theorem argCells_re {give : Bool} : ∀ {ts : List TypeId} {q : Nat} {ls rest : List SLeaf} {cs : List (AC (std E N))} {h : List (Nat × HEnt (std E N))}, argCells (O := std E N) P give q ts ls = some (cs, h, rest) → argCells (O := std E' N') P give q ts ls = some (cs.map AC.re, reH h, rest)
  | [], q, ls, rest, cs, h, he => by
    simp only [argCells] at he ⊢; cases he; rfl
  | t :: ts, q, [], rest, cs, h, he => by simp only [argCells] at he; cases he
  | t :: ts, q, l :: ls, rest, cs, h, he => by
    simp only [argCells] at he ⊢
    cases hl : lkOf P t <;> rw [hl] at he <;> cases l <;> simp only at he <;> try (cases he; done)
    · obtain ⟨⟨cs1, h1, r1⟩, e1, e2⟩ := Option.map_eq_some_iff.1 he
      cases e2
      simp only [argCells_re e1]; rfl
    · obtain ⟨⟨cs1, h1, r1⟩, e1, e2⟩ := Option.map_eq_some_iff.1 he
      cases e2
      simp only [argCells_re e1]; rfl
    · obtain ⟨⟨cs1, h1, r1⟩, e1, e2⟩ := Option.map_eq_some_iff.1 he
      cases e2
      simp only [argCells_re e1]; rfl
    · cases give with
      | false =>
        obtain ⟨⟨cs1, h1, r1⟩, e1, e2⟩ := Option.map_eq_some_iff.1 he
        cases e2
        simp only [argCells_re e1]; rfl
      | true =>
        obtain ⟨⟨cs1, h1, r1⟩, e1, e2⟩ := Option.map_eq_some_iff.1 he
        cases e2
        simp only [argCells_re e1]; rfl

theorem argVals_re : ∀ {ts : List TypeId} {gv : List Bool} {q : Nat} {fns : List Nat} {ls : List SLeaf} {vs : List (AV (std E N))} {hs : List (Nat × HEnt (std E N))}, argVals (O := std E N) P gv q ts fns ls = some (vs, hs) → argVals (O := std E' N') P gv q ts fns ls = some (vs.map AV.re, reH hs)
  | [], gv, q, fns, ls, vs, hs, h => by
    unfold argVals at h ⊢
    cases fns <;> cases ls <;> simp only at h ⊢ <;> cases h
    rfl
  | t :: ts, gv, q, fns, ls, vs, hs, h => by
    unfold argVals at h ⊢
    cases hl : lkOf P t <;> rw [hl] at h <;> simp only at h ⊢
    all_goals first
      | (split at h
         · obtain ⟨⟨r, h1⟩, e1, e2⟩ := Option.map_eq_some_iff.1 h
           cases e2
           simp only [argVals_re e1]; rfl
         · cases h
         done)
      | (split at h
         · cases h
         · rename_i l hl2
           split at h
           · cases h
           · rename_i cs h1 ls1 hc
             obtain ⟨⟨r, h2⟩, e1, e2⟩ := Option.map_eq_some_iff.1 h
             cases e2
             simp only [argCells_re hc, reH_length, argVals_re e1]
             simp [AV.re, Val.re, reH_append])

theorem boundCells_re {own nw : Bool} {c : List PV} : ∀ {ts : List TypeId} {j q : Nat} {cs : List (AC (std E N))} {h : List (Nat × HEnt (std E N))}, boundCells (O := std E N) P own nw c j q ts = some (cs, h) → boundCells (O := std E' N') P own nw c j q ts = some (cs.map AC.re, reH h)
  | [], j, q, cs, h, he => by
    simp only [boundCells] at he ⊢; cases he; rfl
  | t :: ts, j, q, cs, h, he => by
    simp only [boundCells] at he ⊢
    cases hl : lkOf P t <;> rw [hl] at he <;> simp only at he <;> try (cases he; done)
    · obtain ⟨⟨cs1, h1⟩, e1, e2⟩ := Option.map_eq_some_iff.1 he
      cases e2
      simp only [boundCells_re e1]; rfl
    · obtain ⟨⟨cs1, h1⟩, e1, e2⟩ := Option.map_eq_some_iff.1 he
      cases e2
      simp only [boundCells_re e1]; rfl
    · obtain ⟨⟨cs1, h1⟩, e1, e2⟩ := Option.map_eq_some_iff.1 he
      cases e2
      simp only [boundCells_re e1]; rfl
    · cases own with
      | false =>
        obtain ⟨⟨cs1, h1⟩, e1, e2⟩ := Option.map_eq_some_iff.1 he
        cases e2
        simp only [boundCells_re e1]; rfl
      | true =>
        obtain ⟨⟨cs1, h1⟩, e1, e2⟩ := Option.map_eq_some_iff.1 he
        cases e2
        simp only [boundCells_re e1]; rfl

theorem boundVals_re {own nw : Bool} {c : List PV} : ∀ {ts : List TypeId} {j q : Nat} {vs : List (Val (std E N))} {h : List (Nat × HEnt (std E N))}, boundVals (O := std E N) P own nw c j q ts = some (vs, h) → boundVals (O := std E' N') P own nw c j q ts = some (vs.map Val.re, reH h)
  | [], j, q, vs, h, he => by
    simp only [boundVals] at he ⊢; cases he; rfl
  | t :: ts, j, q, vs, h, he => by
    simp only [boundVals] at he ⊢
    split at he
    · cases he
    · rename_i l hl
      split at he
      · cases he
      · rename_i cs h1 hc
        split at he
        · cases he
        · rename_i vs2 h2 hv
          cases he
          simp only [hl, boundCells_re hc, reH_length, boundVals_re hv]
          simp [Val.re, reH_append]

theorem avOf_re (vs : List (Val (std E N))) : (avOf (vs.map Val.re) : AV (std E' N')) = (avOf vs).re := by
  match vs with
  | [] => rfl
  | [v] => rfl
  | v :: v2 :: vs => rfl

theorem Ret.re {ci : CI} {fn : Func} {rs : List PV} {e : Ending} {w' : World} (h : Ret (E := E) (N := N) P ci n0 σ (hpSt hs) w fn rs e w') : Ret (E := E') (N := N') P ci n0 σ (hpSt (reH hs)) w fn rs e w' := by
  cases e with
  | panicked ch => exact h.elim
  | outgrown => exact h.elim
  | returned v =>
    obtain ⟨h1, h2, h3, h4, h5, h6⟩ := h
    refine ⟨h1, h2, h3, h4, fun b hb hm => h5 b hb (fun h => hm (inM_re.2 h)), fun q => ?_⟩
    obtain ⟨σ', vs, hs', a1, a2, a3, a4⟩ := h6 q
    exact ⟨σ', vs.map Val.re, reH hs', boundVals_re a1, a2.re, by rw [avOf_re]; exact a3.re, fun b hb => (a4 b (inM_re.1 hb)).imp (fun h => inM_re.2 h) id⟩

theorem re_re (hs : List (Nat × HEnt (std E N))) : (reH (reH hs : List (Nat × HEnt (std E' N'))) : List (Nat × HEnt (std E N))) = hs := by
  simp only [reH, List.map_map]
  conv => rhs; rw [← List.map_id hs]
  rfl

/-- A contract said over another environment. -/
theorem valid_of {ci : CI} (h : ∀ (ls rs : List PV), E' ci.f ci.fns ls = some rs → ∀ fn, P.funcs[ci.f]? = some fn → ∀ (vs : List (AV (std E N))) (hs : List (Nat × HEnt (std E N))), argVals (O := std E N) P ci.gives 1 fn.params.toList ci.fns (ls.map PV.leaf) = some (vs, hs) →
    ∀ (n0 : Nz) (σ : Nat → Option (Nat × Nat)) (w : World) (args : List Value), n0.n = w.heap.size → Mem P n0 noB σ (hpSt hs) w → RelArgs P n0 noB σ (hpSt hs) w vs args → Calls P ci.f args.toArray w (Ret (E := E) (N := N) P ci n0 σ (hpSt hs) w fn rs)) : Valid P E' N' ci := by
  intro fn hfn ls rs he vs hs hav n0 σ w args hn0 m hr
  refine (h ls rs he fn hfn _ _ (argVals_re hav) n0 σ w args hn0 m.re hr.re).mono (fun e w' hret => ?_)
  have := Ret.re (E' := E') (N' := N') hret
  rw [re_re] at this
  exact this

/-- The contract of a function that the executor runs through. -/
theorem valid_xf (hmix : P.follows .mixedOrders = true) {cfg : Cfg} (hΓ : ∀ ci ∈ cfg.gam, Valid P E N ci ∧ Valid P E N { ci with own := false }) {ci : CI} (h : ∀ (ls rs : List PV), E' ci.f ci.fns ls = some rs → XF (O := std E N) P cfg ci.own ci.nw ci.gives ci.f ci.fns (ls.map PV.leaf) = some rs) :
    Valid P E' N' ci ∧ Valid P E' N' { ci with own := false } :=
  ⟨valid_of (fun ls rs he fn hfn vs hs hv n0 σ w args hn0 m hr => xf_calls hmix hΓ (own' := ci.own) id (h ls rs he) hfn hv hn0 m hr),
   valid_of (ci := { ci with own := false }) (fun ls rs he fn hfn vs hs hv n0 σ w args hn0 m hr => xf_calls hmix hΓ (own' := false) (fun e => by cases e) (h ls rs he) hfn hv hn0 m hr)⟩

end
end Go.Px
