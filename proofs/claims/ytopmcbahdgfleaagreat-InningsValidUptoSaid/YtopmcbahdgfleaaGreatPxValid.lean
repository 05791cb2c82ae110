/-
Px: a function that the executor runs through has the contract that its program says.
-/
import Derived.Test.YtopmcbahdgfleaaGreatPxFun
namespace Go.Px
set_option linter.unusedVariables false
set_option linter.unusedSimpArgs false

section
variable {E : Env} {N : Nat} {P : Program} {cfg : Cfg} {n0 n0' : Nz} {nt : Nat} {β β' : Nat → Option Nat} {σ σ' : Nat → Option (Nat × Nat)} {s s' s2 : St0 E N} {a a' : Act} {w w' : World}

/-! ### Arguments -/

theorem argCells_row {give : Bool} : ∀ {ts : List TypeId} {q : Nat} {ls rest : List SLeaf} {cs : List (AC0 E N)} {h : List (Nat × HEnt (std E N))}, argCells (O := std E N) P give q ts ls = some (cs, h, rest) → Row q h ∧ ∀ n ∈ namesCs cs, q ≤ n ∧ n < q + h.length
  | [], q, ls, rest, cs, h, he => by
    simp only [argCells] at he; cases he
    exact ⟨trivial, fun n hn => by simp [namesCs] at hn⟩
  | t :: ts, q, [], rest, cs, h, he => by simp only [argCells] at he; cases he
  | t :: ts, q, l :: ls, rest, cs, h, he => by
    simp only [argCells] at he
    split at he
    · obtain ⟨⟨cs1, h1, r1⟩, e1, e2⟩ := Option.map_eq_some_iff.1 he
      cases e2
      obtain ⟨a1, a2⟩ := argCells_row e1
      exact ⟨a1, fun n hn => a2 n (by simpa [namesCs, AC.names] using hn)⟩
    · obtain ⟨⟨cs1, h1, r1⟩, e1, e2⟩ := Option.map_eq_some_iff.1 he
      cases e2
      obtain ⟨a1, a2⟩ := argCells_row e1
      exact ⟨a1, fun n hn => a2 n (by simpa [namesCs, AC.names] using hn)⟩
    · obtain ⟨⟨cs1, h1, r1⟩, e1, e2⟩ := Option.map_eq_some_iff.1 he
      cases e2
      obtain ⟨a1, a2⟩ := argCells_row e1
      exact ⟨a1, fun n hn => a2 n (by simpa [namesCs, AC.names] using hn)⟩
    · cases give with
      | false =>
        obtain ⟨⟨cs1, h1, r1⟩, e1, e2⟩ := Option.map_eq_some_iff.1 he
        cases e2
        obtain ⟨a1, a2⟩ := argCells_row e1
        exact ⟨a1, fun n hn => a2 n (by simpa [namesCs, AC.names] using hn)⟩
      | true =>
        obtain ⟨⟨cs1, h1, r1⟩, e1, e2⟩ := Option.map_eq_some_iff.1 he
        cases e2
        obtain ⟨a1, a2⟩ := argCells_row e1
        refine ⟨⟨rfl, a1⟩, fun n hn => ?_⟩
        simp only [namesCs, AC.names, List.cons_append, List.nil_append, List.mem_cons] at hn
        simp only [List.length_cons]
        rcases hn with rfl | hn
        · omega
        · have := a2 n hn; omega
    · cases he

theorem argVals_row : ∀ {ts : List TypeId} {gv : List Bool} {q : Nat} {fns : List Nat} {ls : List SLeaf} {vs : List (AV (std E N))} {hs : List (Nat × HEnt (std E N))}, argVals (O := std E N) P gv q ts fns ls = some (vs, hs) → Row q hs ∧ ∀ v ∈ vs, ∀ n ∈ v.names, q ≤ n ∧ n < q + hs.length
  | [], gv, q, fns, ls, vs, hs, h => by
    unfold argVals at h
    split at h
    · cases h; exact ⟨trivial, fun v hv => by simp at hv⟩
    · rename_i hx; cases hx
    · cases h
  | t :: ts, gv, q, fns, ls, vs, hs, h => by
    unfold argVals at h
    split at h
    · split at h
      · obtain ⟨⟨r, h1⟩, e1, e2⟩ := Option.map_eq_some_iff.1 h
        cases e2
        obtain ⟨a1, a2⟩ := argVals_row e1
        refine ⟨a1, fun v hv n hn => ?_⟩
        rcases List.mem_cons.1 hv with rfl | hv
        · simp [AV.names, one, namesCs, AC.names] at hn
        · exact a2 v hv n hn
      · cases h
    · split at h
      · cases h
      · rename_i l hl
        split at h
        · cases h
        · rename_i cs h1 ls1 hc
          obtain ⟨⟨r, h2⟩, e1, e2⟩ := Option.map_eq_some_iff.1 h
          cases e2
          obtain ⟨a1, a2⟩ := argCells_row hc
          obtain ⟨b1, b2⟩ := argVals_row e1
          refine ⟨a1.append b1, fun v hv n hn => ?_⟩
          rw [List.length_append]
          rcases List.mem_cons.1 hv with rfl | hv
          · have := a2 n hn; omega
          · have := b2 v hv n hn; omega

/-! ### Results -/

/-- The slot of a result. -/
def slotOf (P : Program) (own nw : Bool) (t : TypeId) : SlotC := match lkOf P t with
  | .int k => .int k
  | .bool => .bool
  | .str => .str
  | .sl e => match own with
    | true => .own e nw
    | false => .imm e nw
  | _ => .bool

/-- What goes out of a function can be taken along. -/
theorem out_enc (m : Mem P n0 β σ s w) {own own' nw : Bool} (ho : own' = true → own = true) : ∀ {ts : List TypeId} {cs : List (AC0 E N)} {vals : List Value} {used usedE : List Nat} {ls : List SLeaf}, outLf (O := std E N) s own nw used cs = .ok ls → rowKind1 P ts cs = true → RelCs P n0 β σ s w cs vals → (∀ n ∈ usedE, n ∈ used) →
    ∃ u, encCs (O := std E N) s [] usedE (ts.map (slotOf P own' nw)) cs = .ok (ls, u)
  | [], [], vals, used, usedE, ls, h, _, _, _ => by
    simp only [outLf] at h; cases h
    exact ⟨usedE, rfl⟩
  | t :: ts, c :: cs, v :: vals, used, usedE, ls, h, hk, hr, hu => by
    simp only [rowKind1] at hk
    split at hk
    case h_2 => cases hk
    rename_i hk1
    have goOk : ∀ {l : SLeaf} {u : List Nat}, consE l (outLf (O := std E N) s own nw u cs) = .ok ls → ∃ ls2, outLf (O := std E N) s own nw u cs = .ok ls2 ∧ ls = l :: ls2 := fun {l u} h => by
      cases hx : outLf (O := std E N) s own nw u cs with
      | ok ls2 => rw [hx] at h; simp only [consE] at h; cases h; exact ⟨ls2, rfl, rfl⟩
      | error e => rw [hx] at h; simp only [consE] at h; cases h
    have fin : ∀ {l : SLeaf} {u uE : List Nat} {ls2 : List SLeaf}, encC (O := std E N) s [] usedE (slotOf P own' nw t) c = .ok (l, uE) → outLf (O := std E N) s own nw u cs = .ok ls2 → ls = l :: ls2 → (∀ n ∈ uE, n ∈ u) → ∃ u, encCs (O := std E N) s [] usedE ((t :: ts).map (slotOf P own' nw)) (c :: cs) = .ok (ls, u) := fun {l u uE ls2} h1 h2 h3 h4 => by
      obtain ⟨u2, h5⟩ := out_enc m ho h2 hk hr.2 h4
      refine ⟨u2, ?_⟩
      simp only [List.map_cons, encCs, h1, h5, h3]
    cases c with
    | int k i =>
      simp only [outLf] at h
      obtain ⟨ls2, h2, h3⟩ := goOk h
      cases hl : lkOf P t <;> rw [hl] at hk1 <;> simp [rowKind] at hk1
      refine fin (l := .int i) (uE := usedE) ?_ h2 h3 hu
      simp [slotOf, hl, encC, hk1]
    | bool b =>
      simp only [outLf] at h
      obtain ⟨ls2, h2, h3⟩ := goOk h
      cases hl : lkOf P t <;> rw [hl] at hk1 <;> simp [rowKind] at hk1
      refine fin (l := .bool b) (uE := usedE) ?_ h2 h3 hu
      simp [slotOf, hl, encC]
    | str x =>
      simp only [outLf] at h
      obtain ⟨ls2, h2, h3⟩ := goOk h
      cases hl : lkOf P t <;> rw [hl] at hk1 <;> simp [rowKind] at hk1
      refine fin (l := .str x) (uE := usedE) ?_ h2 h3 hu
      simp [slotOf, hl, encC]
    | nil e =>
      simp only [outLf] at h
      obtain ⟨ls2, h2, h3⟩ := goOk h
      cases hl : lkOf P t <;> rw [hl] at hk1 <;> simp [rowKind] at hk1
      subst hk1
      refine fin (l := .rows []) (uE := usedE) ?_ h2 h3 hu
      cases own' <;> simp [slotOf, hl, encC]
    | imm e n l =>
      simp only [outLf] at h
      split at h
      case h_2 => cases h
      rename_i hg
      obtain ⟨ls2, h2, h3⟩ := goOk h
      cases hl : lkOf P t <;> rw [hl] at hk1 <;> simp [rowKind] at hk1
      subst hk1
      have hown : own' = false := by
        cases own' with
        | false => rfl
        | true => have := ho rfl; rw [this] at hg; simp at hg
      subst hown
      refine fin (l := .rows l) (uE := usedE) ?_ h2 h3 hu
      have hg2 : (n || !nw) = true := by simp only [Bool.and_eq_true] at hg; exact hg.2
      simp [slotOf, hl, encC, hg2]
    | own e id =>
      simp only [outLf] at h
      cases hh : s.getH id with
      | none => rw [hh] at h; cases h
      | some en =>
        rw [hh] at h
        simp only at h
        split at h
        case h_2 => cases h
        rename_i hg
        obtain ⟨ls2, h2, h3⟩ := goOk h
        simp only [Bool.and_eq_true, Bool.not_eq_true'] at hg
        obtain ⟨⟨g1, g2⟩, g3⟩ := hg
        cases hl : lkOf P t <;> rw [hl] at hk1 <;> simp [rowKind] at hk1
        subst hk1
        have he := (hr.1.2 en hh).1
        have hm : memN id usedE = false := by
          cases hx : memN id usedE with
          | false => rfl
          | true => have := memN_iff.2 (hu id (memN_iff.1 hx)); rw [this] at g2; cases g2
        cases own' with
        | true =>
          have := ho rfl; subst this
          refine fin (l := .rows en.l) (uE := id :: usedE) ?_ h2 h3 (fun n hn => by
            rcases List.mem_cons.1 hn with rfl | hn
            · exact List.mem_cons_self
            · exact List.mem_cons_of_mem _ (hu n hn))
          have g1' : en.frozen = false := by simpa using g1
          simp [slotOf, hl, encC, hh, he, g1', hm, memN, g3]
        | false =>
          refine fin (l := .rows en.l) (uE := match en.frozen with | true => usedE | false => id :: usedE) ?_ h2 h3 (fun n hn => by
            cases hz : en.frozen with
            | true => rw [hz] at hn; exact List.mem_cons_of_mem _ (hu n hn)
            | false =>
              rw [hz] at hn
              rcases List.mem_cons.1 hn with rfl | hn
              · exact List.mem_cons_self
              · exact List.mem_cons_of_mem _ (hu n hn))
          simp [slotOf, hl, encC, hh, he, hm, memN, g3]
          cases en.frozen <;> rfl
    | _ => simp only [outLf] at h; cases h
  | [], _ :: _, _, _, _, _, _, hk, _, _ => by simp [rowKind1] at hk
  | _ :: _, [], _, _, _, _, _, hk, _, _ => by simp [rowKind1] at hk
  | _, _ :: _, [], _, _, _, _, _, hr, _ => hr.elim

theorem decCs_append (cv : List PV) : ∀ (x y : List SlotC) (j q : Nat), DecCs E N cv j q (x ++ y) = ((DecCs E N cv j q x).1 ++ (DecCs E N cv (j + x.length) (q + (DecCs E N cv j q x).2.length) y).1, (DecCs E N cv j q x).2 ++ (DecCs E N cv (j + x.length) (q + (DecCs E N cv j q x).2.length) y).2)
  | [], y, j, q => rfl
  | c :: x, y, j, q => by
    have e : ∀ z, DecCs E N cv j q (c :: z) = ((DecC E N cv j q c).1 :: (DecCs E N cv (j + 1) (q + (DecC E N cv j q c).2.length) z).1, (DecC E N cv j q c).2 ++ (DecCs E N cv (j + 1) (q + (DecC E N cv j q c).2.length) z).2) := fun z => rfl
    rw [List.cons_append, e, e, decCs_append cv x y]
    simp only [List.cons_append, List.length_cons, List.length_append, List.append_assoc]
    rw [show j + 1 + x.length = j + (x.length + 1) by omega, Nat.add_assoc]

theorem bound_cells {own nw : Bool} {cv : List PV} : ∀ {ts : List TypeId} {cs : List (AC0 E N)} {j q : Nat}, rowKind1 P ts cs = true → boundCells (O := std E N) P own nw cv j q ts = some (DecCs E N cv j q (ts.map (slotOf P own nw)))
  | [], [], j, q, _ => rfl
  | t :: ts, c :: cs, j, q, h => by
    simp only [rowKind1] at h
    split at h
    case h_2 => cases h
    rename_i hk
    have ih := fun j q => bound_cells (own := own) (nw := nw) (cv := cv) (j := j) (q := q) h
    cases hl : lkOf P t <;> rw [hl] at hk <;> (try (cases c <;> simp [rowKind] at hk; done))
    · simp only [boundCells, hl, ih]; simp [DecCs, decCs, decC, slotOf, hl]
    · simp only [boundCells, hl, ih]; simp [DecCs, decCs, decC, slotOf, hl]
    · simp only [boundCells, hl, ih]; simp [DecCs, decCs, decC, slotOf, hl]
    · cases own with
      | true => simp only [boundCells, hl, ih]; simp [DecCs, decCs, decC, slotOf, hl]
      | false => simp only [boundCells, hl, ih]; simp [DecCs, decCs, decC, slotOf, hl]
  | [], _ :: _, _, _, h => by simp [rowKind1] at h
  | _ :: _, [], _, _, h => by simp [rowKind1] at h

theorem decCs_len {cv : List PV} : ∀ {x : List SlotC} {j q : Nat}, (DecCs E N cv j q x).1.length = x.length
  | [], j, q => rfl
  | c :: x, j, q => by
    have e : DecCs E N cv j q (c :: x) = ((DecC E N cv j q c).1 :: (DecCs E N cv (j + 1) (q + (DecC E N cv j q c).2.length) x).1, (DecC E N cv j q c).2 ++ (DecCs E N cv (j + 1) (q + (DecC E N cv j q c).2.length) x).2) := rfl
    rw [e]; simp [decCs_len (x := x)]

/-- A bound result, taken apart. -/
theorem bound_split {own nw : Bool} {cv : List PV} : ∀ {ts : List TypeId} {vs : List (Val (std E N))} {j q : Nat}, resOk P ts vs = true → ∃ (l : List TypeId) (vs' : List (Val (std E N))), tysAll P ts = some l ∧ rowKind1 P l ((vs.map (·.cs)).flatten) = true ∧
    boundVals (O := std E N) P own nw cv j q ts = some (vs', (DecCs E N cv j q (l.map (slotOf P own nw))).2) ∧ splitVals P ts (DecCs E N cv j q (l.map (slotOf P own nw))).1 = some vs'
  | [], [], j, q, _ => ⟨[], [], rfl, rfl, rfl, rfl⟩
  | t :: ts, v :: vs, j, q, h => by
    simp only [resOk, Bool.and_eq_true] at h
    cases hl : tysOf P t with
    | none => rw [hl] at h; simp at h
    | some l =>
      rw [hl] at h
      simp only [Bool.and_eq_true, beq_iff_eq] at h
      obtain ⟨l2, vs', h1, h2, h3, h4⟩ := bound_split (own := own) (nw := nw) (cv := cv) (j := j + l.length) (q := q + (DecCs E N cv j q (l.map (slotOf P own nw))).2.length) h.2
      have hb := bound_cells (own := own) (nw := nw) (cv := cv) (j := j) (q := q) h.1.2
      refine ⟨l ++ l2, { agg := isAggT P t, cs := (DecCs E N cv j q (l.map (slotOf P own nw))).1 } :: vs', by simp [tysAll, hl, h1], ?_, ?_, ?_⟩
      · have : ∀ {a b : List TypeId} {x y : List (AC0 E N)}, rowKind1 P a x = true → rowKind1 P b y = true → rowKind1 P (a ++ b) (x ++ y) = true := fun {a b x y} hx hy => by
          induction a generalizing x with
          | nil => cases x with
            | nil => exact hy
            | cons _ _ => simp [rowKind1] at hx
          | cons t a ih => cases x with
            | nil => simp [rowKind1] at hx
            | cons c x =>
              simp only [rowKind1] at hx
              split at hx
              · rename_i hk; simp only [List.cons_append, rowKind1, hk]; exact ih hx
              · cases hx
        exact this h.1.2 h2
      · simp only [boundVals, hl]
        rw [hb, List.map_append, decCs_append, List.length_map]
        simp only [h3]
      · simp only [splitVals, hl]
        rw [List.map_append, decCs_append, List.length_map]
        have hlen : (DecCs E N cv j q (l.map (slotOf P own nw))).1.length = l.length := by rw [decCs_len, List.length_map]
        simp only
        rw [← hlen, List.drop_left, List.take_left, hlen, h4]
  | [], _ :: _, _, _, h => by simp [resOk] at h
  | _ :: _, [], _, _, h => by simp [resOk] at h

/-- Cells of results read the same where no variables are. -/
theorem decC_noB {cv : List PV} {S S2 : St0 E N} (hH : ∀ n, S2.getH n = S.getH n) (hst : ∀ nw b, StB n0 β σ S nw b → StB n0 noB σ S2 nw b) : ∀ {x : List SlotC} {j q : Nat} {vals : List Value}, RelCs P n0 β σ S w (DecCs E N cv j q x).1 vals → RelCs P n0 noB σ S2 w (DecCs E N cv j q x).1 vals
  | [], j, q, [], h => trivial
  | [], j, q, _ :: _, h => h.elim
  | c :: x, j, q, [], h => h.elim
  | c :: x, j, q, v :: vals, h => by
    have e : DecCs E N cv j q (c :: x) = ((DecC E N cv j q c).1 :: (DecCs E N cv (j + 1) (q + (DecC E N cv j q c).2.length) x).1, (DecC E N cv j q c).2 ++ (DecCs E N cv (j + 1) (q + (DecC E N cv j q c).2.length) x).2) := rfl
    rw [e] at h ⊢
    refine ⟨?_, decC_noB hH hst h.2⟩
    have h1 := h.1
    cases c with
    | int k => exact h1
    | bool => exact h1
    | str => exact h1
    | own e nw =>
      obtain ⟨h2, h3⟩ := h1
      exact ⟨h2, fun en hen => h3 en (by rw [← hH]; exact hen)⟩
    | imm e nw => obtain ⟨t, ht, hr⟩ := h1; exact ⟨t, ht, hr.st (hst nw)⟩

/-- The end of a function. -/
theorem fin_ok {own own' nw : Bool} (ho : own' = true → own = true) {gives : List Bool} {f : FuncId} {fns : List Nat} {rs : List PV} {fn : Func} {hs : List (Nat × HEnt (std E N))} {ex : Ex} (hsim : Sim P n0 nt β' σ' s' a' w') (hdef : a'.defers = [])
    (x1 : Ext P (fun _ => True) noB σ (hpSt hs) w β' σ' s' w') (hk : finK (O := std E N) P own nw fn ex s' = some rs) : bodyPost P fn (Ret (E := E) (N := N) P ⟨f, fns, own', nw, gives⟩ n0 σ (hpSt hs) w fn rs) (exitOf ex) a' w' := by
  unfold finK at hk
  split at hk
  · cases hk
  · cases hk
  rename_i vs' hex hvs
  split at hk
  case h_2 => cases hk
  case h_3 => cases hk
  rename_i ls' hres hout
  have hrs : rs = ls'.map Leaf.pv := (Option.some.inj hk).symm
  obtain ⟨z, zs, r1, r2, r3⟩ := results_ok hsim hvs
  have hfin : Ret (E := E) (N := N) P ⟨f, fns, own', nw, gives⟩ n0 σ (hpSt hs) w fn rs (.returned z) w' := by
    refine ⟨x1.os, x1.tape, x1.output, x1.size, fun b hb hm => x1.frame b hb hm, fun q => ?_⟩
    obtain ⟨l, vs2, b1, b2, b3, b4⟩ := bound_split (own := own') (nw := nw) (cv := rs) (j := 0) (q := q) hres
    obtain ⟨u, henc⟩ := out_enc hsim.M ho (usedE := []) hout b2 r2.flat (fun n hn => by simp at hn)
    have hj := join (s := s') (a := a') (w := w') (L := q) (base := { tm := .e, bx := [], hp := [], st := q }) hsim
      (fun n tv hn => by
        have hn : getTM (.e : TM (TV (std E N))) n = some tv := hn
        rw [getTM_e] at hn; cases hn)
      (fun n e he => by cases he) (fun n e he => by cases he)
      (rs := l.map (slotOf P own' nw)) r2.flat (sl := []) (fun b c hm => by simp at hm) henc (ls2 := []) rfl (cv := rs) (j := 0) (by rw [hrs, List.append_nil]; exact holds_map (pre := []))
    obtain ⟨σ2, S, hS, j1, j2, j3⟩ := hj
    have hSH : ∀ n, S.getH n = alGet (DecCs E N rs 0 q (l.map (slotOf P own' nw))).2 n := fun n => by
      rw [hS]
      show alGet (_ ++ []) n = _
      rw [List.append_nil]
    have hSB : ∀ n, S.getB n = none := fun n => by rw [hS]; rfl
    generalize hD : (DecCs E N rs 0 q (l.map (slotOf P own' nw))).2 = D at *
    have hH2 : ∀ n, (hpSt D).getH n = S.getH n := fun n => (hSH n).symm
    have inM : ∀ b, InM noB σ2 (hpSt D) b → InM β' σ2 S b := fun b hb => by
      rcases hb with ⟨n, e, h1, _⟩ | ⟨n, h, cap, h1, h2, h3⟩
      · cases h1
      · exact .inr ⟨n, h, cap, by rw [← hH2]; exact h1, h2, h3⟩
    have hst : ∀ nw b, StB n0 β' σ2 S nw b → StB n0 noB σ2 (hpSt D) nw b := fun nw b hb => ⟨fun hm => hb.1 (inM b hm), hb.2⟩
    refine ⟨σ2, vs2, D, b3, ⟨fun n e he => (by cases he), fun n h hh => ?_, fun b b' e e' blk he => (by cases he), fun n n' h h' blk cap cap' hh hh' => ?_, fun b e n h blk cap he => (by cases he)⟩, ?_, fun b hb => ?_⟩
    · rw [hH2] at hh
      exact (j3.sim.M.H n h hh).view rfl rfl rfl (fun _ _ _ ho => ho) (fun b hb => hst _ b hb)
    · rw [hH2] at hh hh'
      exact j3.sim.M.uH n n' h h' blk cap cap' hh hh'
    · have j1' := decC_noB (S2 := hpSt D) hH2 hst j1
      exact relAV_of (splitVals_ok hres r2 j1' b4).1 r3
    · rcases j3.ext.mem b (inM b hb) with h | h
      · exact x1.mem b h
      · exact .inr (Nat.le_trans x1.size h)
  cases ex with
  | nrm => exact ⟨hdef, z, r1, hfin⟩
  | ret => exact ⟨hdef, z, r1, hfin⟩
  | ext id => simp [isExt] at hex

theorem xf_calls (hmix : P.follows .mixedOrders = true) (hΓ : ∀ ci ∈ cfg.gam, Valid P E N ci ∧ Valid P E N { ci with own := false }) {own own' nw : Bool} (ho : own' = true → own = true) {gives : List Bool} {f : FuncId} {fns : List Nat} {ls rs : List PV}
    (h : XF (O := std E N) P cfg own nw gives f fns (ls.map PV.leaf) = some rs) {fn : Func} (hfn : P.funcs[f]? = some fn) {vs : List (AV (std E N))} {hs : List (Nat × HEnt (std E N))} (hv : argVals (O := std E N) P gives 1 fn.params.toList fns (ls.map PV.leaf) = some (vs, hs))
    (hn0 : n0.n = w.heap.size) (m : Mem P n0 noB σ (hpSt hs) w) {args : List Value} (hr : RelArgs P n0 noB σ (hpSt hs) w vs args) : Calls P f args.toArray w (Ret (E := E) (N := N) P ⟨f, fns, own', nw, gives⟩ n0 σ (hpSt hs) w fn rs) := by
  unfold XF at h
  rw [hfn] at h
  simp only at h
  split at h
  · rename_i body vs' hs' hb hv'
    rw [hv] at hv'
    cases hv'
    split at h
    · cases h
    rename_i htm
    obtain ⟨row, hnames⟩ := argVals_row hv
    let sx : St0 E N := { tm := .e, bx := [], hp := hs, st := 1 + hs.length }
    have subx : Sub (hpSt hs) sx := Sub.of_same (fun _ => rfl) (fun _ => rfl)
    have mx : Mem P n0 noB σ sx w := subx.mem m
    have hrx : RelArgs P n0 noB σ sx w vs args := (subx.ext P (fun _ => False) noB σ w).relArgs hr
    have hfx : ∀ n, sx.st ≤ n → FreshM sx n := fun n hn => ⟨fun k e he => (by cases he), fun k e he => (by
      have := row.mem _ (row.get he)
      have hn : 1 + hs.length ≤ n := hn
      simp at this; omega)⟩
    refine calls_of_wp hfn hb ?_
    have hs1 := sim0 (s := sx) (nt := fn.ntmps) (Nat.le_of_eq hn0) mx hrx
    have wf1 := wf0 (s := sx) hfx (args := vs) (fun x hx n hn => (hnames x hx n hn).2)
    have htm' := tmpsOk_mono (act0_size (nt := fn.ntmps) (vals := args)) htm
    have subs1 : Sub sx ({ sx with tm := paramTM 0 vs .e } : St0 E N) := Sub.of_same (fun _ => rfl) (fun _ => rfl)
    refine XL_ok hmix hΓ 6 n0 _ body htm' _ _ _ _ rs noB σ (act0 fn.ntmps args) w _ h hs1 wf1 (fun ex s' β' σ' a' w' hk mm hmm hp wf' hle => ?_)
    have x1 : Ext P (fun _ => True) noB σ (hpSt hs) w β' σ' s' w' := (((subx.ext P (fun _ => False) noB σ w).trans (subs1.ext P (fun _ => False) noB σ w)).trans hp.ext).weaken (fun _ _ => trivial)
    exact fin_ok ho hp.sim hp.defers x1 hk
  · cases h
  · cases h

end
end Go.Px
