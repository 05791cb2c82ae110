/-
Px: the table of a program's functions: their shapes, and how a contract comes out of a printed program.
-/
import Derived.Test.YtopmcbahdgfleaaGreatPxClone
namespace Go.Px
set_option linter.unusedVariables false
set_option linter.unusedSimpArgs false

/-- The kinds of a row of data: 0 integers, 1 bools, 2 strings, 3 slices. -/
def shape : List Nat → List PV → Bool
  | [], [] => true
  | k :: ks, p :: ps => (match p with | .int _ => Nat.beq k 0 | .bool _ => Nat.beq k 1 | .str _ => Nat.beq k 2 | .rows _ => Nat.beq k 3) && shape ks ps
  | _, _ => false

/-- The arguments of a program: what lies at each place. -/
structure Ags (O : Alg) where
  I : Nat → O.I
  B : Nat → O.B
  S : Nat → O.S
  L : Nat → O.L

/-- So many arguments of these kinds, from a place on. -/
def xr {O : Alg} (x : Ags O) : List Nat → Nat → List O.Lf
  | [], _ => []
  | k :: ks, j => (match k with | 0 => .int (x.I j) | 1 => .bool (x.B j) | 2 => .str (x.S j) | _ => .rows (x.L j)) :: xr x ks (j + 1)

/-- Cells of a bound row. -/
def cr (O : Alg) (c : O.C) : List Nat → Nat → List O.Lf
  | [], _ => []
  | k :: ks, j => (match k with | 0 => .int (O.cI c j) | 1 => .bool (O.cB c j) | 2 => .str (O.cS c j) | _ => .rows (O.cL c j)) :: cr O c ks (j + 1)

def xOf {E : Env} {N : Nat} (ls : List PV) : Ags (std E N) := { I := fun j => pvI (cellAt ls j), B := fun j => pvB (cellAt ls j), S := fun j => pvS (cellAt ls j), L := fun j => pvL (cellAt ls j) }

theorem leafs_eq {E : Env} {N : Nat} : ∀ {ks : List Nat} {ps pre : List PV}, shape ks ps = true → ps.map PV.leaf = xr (xOf (E := E) (N := N) (pre ++ ps)) ks pre.length
  | [], [], pre, _ => rfl
  | k :: ks, p :: ps, pre, h => by
    simp only [shape, Bool.and_eq_true] at h
    have ih := leafs_eq (E := E) (N := N) (ks := ks) (ps := ps) (pre := pre ++ [p]) h.2
    simp only [List.map_cons, xr]
    have hc : cellAt (pre ++ p :: ps) pre.length = p := by
      unfold cellAt
      rw [List.getD_eq_getElem?_getD, List.getElem?_append_right (Nat.le_refl _)]; simp
    rw [List.append_assoc, List.length_append] at ih
    have ih : ps.map PV.leaf = xr (xOf (E := E) (N := N) (pre ++ p :: ps)) ks (pre.length + 1) := ih
    rw [ih]
    congr 1
    have h1 := h.1
    cases p with
    | int n => have := natBeq_iff.1 h1; subst this; simp [xOf, hc, PV.leaf]
    | bool n => have := natBeq_iff.1 h1; subst this; simp [xOf, hc, PV.leaf]
    | str n => have := natBeq_iff.1 h1; subst this; simp [xOf, hc, PV.leaf]
    | rows n => have := natBeq_iff.1 h1; subst this; simp [xOf, hc, PV.leaf]
  | [], _ :: _, _, h => by simp [shape] at h
  | _ :: _, [], _, h => by simp [shape] at h

theorem shape_leafs {E : Env} {N : Nat} {ks : List Nat} {ls : List PV} (h : shape ks ls = true) : ls.map PV.leaf = xr (xOf (E := E) (N := N) ls) ks 0 := leafs_eq (pre := []) h

/-- A function on rows of one shape. -/
def onShape (ks : List Nat) (ls : List PV) (F : Option (List PV)) : Option (List PV) := match shape ks ls with
  | true => F
  | false => none

theorem onShape_some {ks : List Nat} {ls rs : List PV} {F : Option (List PV)} (h : onShape ks ls F = some rs) : shape ks ls = true ∧ F = some rs := by
  unfold onShape at h
  split at h
  · rename_i hs; exact ⟨hs, h⟩
  · cases h

abbrev VV (P : Program) (E : Env) (N : Nat) (ci : CI) : Prop := Valid P E N ci ∧ Valid P E N { ci with own := false }

theorem gam_nil {P : Program} {E : Env} {N : Nat} : ∀ ci ∈ ([] : List CI), VV P E N ci := fun ci h => by simp at h
theorem gam_cons {P : Program} {E : Env} {N : Nat} {c : CI} {l : List CI} (h : VV P E N c) (k : ∀ ci ∈ l, VV P E N ci) : ∀ ci ∈ c :: l, VV P E N ci := fun ci hm => by
  rcases List.mem_cons.1 hm with rfl | hm
  · exact h
  · exact k ci hm

/-- The contract of a function whose program was printed. -/
theorem valid_tab {P : Program} (hmix : P.follows .mixedOrders = true) {E : Env} {N : Nat} {cfg : Cfg} (hΓ : ∀ ci ∈ cfg.gam, VV P E N ci) {ci : CI} {ks : List Nat} {c F : List PV → Option (List PV)} (hc : ∀ ls, c ls = onShape ks ls (F ls))
    (hx : ∀ ls, XF (O := std E N) P cfg ci.own ci.nw ci.gives ci.f ci.fns (xr (xOf ls) ks 0) = F ls) {E' : Env} {N' : Nat} (h : ∀ ls, E' ci.f ci.fns ls = c ls) : VV P E' N' ci :=
  valid_xf hmix hΓ (fun ls rs he => by
    rw [h, hc] at he
    obtain ⟨h1, h2⟩ := onShape_some he
    rw [shape_leafs h1, hx]; exact h2)

def isSmall (n b : Nat) : Bool := decide (n ≤ 17592186044416 ∧ n * b ≤ 17592186044416)

/-- Clone, as a function on data. -/
def cloneC (b : Nat) (ls : List PV) : Option (List PV) := match ls with
  | [.rows l] => match isSmall l.length b with
    | true => some [.rows l]
    | false => none
  | _ => none

def cloneNil (T : TypeId) (fn : Func) : Code := match fn.body with
  | some c => match clonePieces T c with
    | some (nb, _) => nb
    | none => .skip
  | none => .skip
def cloneTail (T : TypeId) (fn : Func) : Code := match fn.body with
  | some c => match clonePieces T c with
    | some (_, t) => t
    | none => .skip
  | none => .skip
def cloneLv (fn : Func) : Lv := { nrm := resMask fn.results.toList, ret := resMask fn.results.toList, exts := [] }

/-- What is asked of Clone's text. -/
def cloneOk (P : Program) (T : TypeId) (fn : Func) : Bool := match fn.body with
  | some c => (clonePieces T c).isSome && tmpsOk fn.ntmps (cloneNil T fn) && tmpsOk fn.ntmps (cloneTail T fn) && (an P (cloneNil T fn)).nrm.isNone && Nat.ble 5 fn.ntmps && natListEq fn.params.toList [T]
  | none => false

theorem valid_clone {P : Program} (hmix : P.follows .mixedOrders = true) {f : FuncId} {T e : TypeId} {b : Nat} {fn : Func} (hfn : P.funcs[f]? = some fn) (hT : P.underlying T = some (.slice e)) (hok : cloneOk P T fn = true) (hb : b ≤ 1048576)
    (h1 : ∀ (O : Alg) (l : O.L), XL (O := O) P { gam := [] } 6 (cloneNil T fn) true (cloneLv fn) (cloneSt e l) (finK P true true fn) = O.ret [.rows O.lnil])
    (h2 : ∀ (O : Alg) (l : O.L), XL (O := O) P { gam := [] } 6 (cloneTail T fn) true (cloneLv fn) (cloneSt e l) (finK P true true fn) = O.assert (O.small (O.llen (O.lapp (O.llit []) l)) b) (O.ret [.rows (O.lapp (O.llit []) l)]))
    {E' : Env} {N' : Nat} (h : ∀ ls, E' f [] ls = cloneC b ls) : VV P E' N' ⟨f, [], true, true, []⟩ := by
  unfold cloneOk at hok
  split at hok
  case h_2 => cases hok
  rename_i c hbody
  simp only [Bool.and_eq_true] at hok
  obtain ⟨⟨⟨⟨⟨k1, k2⟩, k3⟩, k4⟩, k5⟩, k6⟩ := hok
  have k5 := Nat.le_of_ble_eq_true k5
  have k6 := natListEq_iff.1 k6
  obtain ⟨⟨nb, tail⟩, hpc⟩ := Option.isSome_iff_exists.1 k1
  have hnb : cloneNil T fn = nb := by simp [cloneNil, hbody, hpc]
  have htl : cloneTail T fn = tail := by simp [cloneTail, hbody, hpc]
  rw [hnb] at k2 k4
  rw [htl] at k3
  have main : ∀ own', (own' = true → true = true) → ∀ (ls rs : List PV), E' f [] ls = some rs → ∀ fn', P.funcs[f]? = some fn' → ∀ (vs : List (AV (std E' N'))) (hs : List (Nat × HEnt (std E' N'))), argVals (O := std E' N') P [] 1 fn'.params.toList [] (ls.map PV.leaf) = some (vs, hs) →
      ∀ (n0 : Nz) (σ : Nat → Option (Nat × Nat)) (w : World) (args : List Value), n0.n = w.heap.size → Mem P n0 noB σ (hpSt hs) w → RelArgs P n0 noB σ (hpSt hs) w vs args → Calls P f args.toArray w (Ret (E := E') (N := N') P ⟨f, [], own', true, []⟩ n0 σ (hpSt hs) w fn' rs) :=
    fun own' ho ls rs he fn' hfn' vs hs hv n0 σ w args hn0 m hr => by
      rw [hfn] at hfn'; cases hfn'
      rw [h] at he
      unfold cloneC at he
      split at he
      case h_2 => cases he
      rename_i l
      split at he
      case h_2 => cases he
      rename_i hsm
      cases he
      unfold isSmall at hsm
      have hsm := of_decide_eq_true hsm
      refine clone_calls (cfg := { gam := [] }) hmix (fun ci hm => by simp at hm) ho hfn k6 hT hbody hpc k2 k3 k4 k5 (lv := cloneLv fn) (fun hl => ?_) ?_ hv hn0 m hr
      · rw [← hnb, h1, hl]; rfl
      · rw [← htl, h2]
        have : (decide ((0 : Int) ≤ ((([] ++ l : Rows).length : Nat) : Int) ∧ ((([] ++ l : Rows).length : Nat) : Int) ≤ 17592186044416 ∧ ((([] ++ l : Rows).length : Nat) : Int) * (b : Int) ≤ 17592186044416 ∧ b ≤ 1048576)) = true := by
          simp only [List.nil_append, decide_eq_true_eq]
          refine ⟨by omega, by omega, ?_, hb⟩
          have := hsm.2
          rw [← Int.natCast_mul]; omega
        show cond (decide ((0 : Int) ≤ ((([] ++ l : Rows).length : Nat) : Int) ∧ ((([] ++ l : Rows).length : Nat) : Int) ≤ 17592186044416 ∧ ((([] ++ l : Rows).length : Nat) : Int) * (b : Int) ≤ 17592186044416 ∧ b ≤ 1048576)) (some [PV.rows ([] ++ l)]) none = _
        rw [this]; rfl
  exact ⟨valid_of (ci := ⟨f, [], true, true, []⟩) (main true (fun _ => rfl)), valid_of (ci := ⟨f, [], false, true, []⟩) (main false (fun _ => rfl))⟩

end Go.Px
