/-
Px: a scope of its own: its ways out are brought together.
-/
import Derived.Test.YtopmcbahdgfleaaGreatPxWay
namespace Go.Px
set_option linter.unusedVariables false
set_option linter.unusedSimpArgs false

section
variable {E : Env} {N : Nat} {P : Program} {cfg : Cfg} {n0 n0' : Nz} {nt : Nat} {β β' : Nat → Option Nat} {σ σ' : Nat → Option (Nat × Nat)} {s s' s2 : St0 E N} {a a' : Act} {w w' : World}

theorem cleaned_B {n : Nat} : (cleaned s).getB n = (s.getB n).map fun e => { e with dirty := false } := by
  show alGet (s.bx.map fun (n, e) => (n, { e with dirty := false })) n = _
  exact alGet_map (fun e : BEnt (std E N) => { e with dirty := false }) s.bx n
theorem cleaned_H {n : Nat} : (cleaned s).getH n = (s.getH n).map fun e => { e with dirty := false } := by
  show alGet (s.hp.map fun (n, e) => (n, { e with dirty := false })) n = _
  exact alGet_map (fun e : HEnt (std E N) => { e with dirty := false }) s.hp n
theorem cleaned_T {n : Nat} : (cleaned s).getT n = s.getT n := rfl

theorem cleaned_sub : Sub s (cleaned s) where
  b n e h := by
    rw [cleaned_B] at h
    obtain ⟨e0, h0, rfl⟩ := Option.map_eq_some_iff.1 h
    exact ⟨e0, h0, rfl⟩
  h n e h := by
    rw [cleaned_H] at h
    obtain ⟨e0, h0, rfl⟩ := Option.map_eq_some_iff.1 h
    exact ⟨e0, h0, rfl, rfl, rfl, fun h => h⟩
theorem Sim.cleaned (hs : Sim P n0 nt β σ s a w) : Sim P n0 nt β σ (cleaned s) a w :=
  ⟨hs.n0le, hs.size, fun n tv hn => by
    rcases hs.T n tv hn with ⟨h1, h2⟩ | h1
    · exact .inl ⟨h1, (cleaned_sub.ext P (fun _ => False) β σ w).relAV (fun _ _ h => h) h2⟩
    · exact .inr h1, cleaned_sub.mem hs.M⟩
theorem WF.cleaned (h : WF s) : WF (cleaned s) :=
  ⟨fun n hn => ⟨⟨fun k e he => by
    obtain ⟨e0, h0, hc⟩ := cleaned_sub.b k e he
    have := (h.fresh n hn).1.1 k e0 h0
    exact ⟨this.1, by rw [hc]; exact this.2⟩, fun k e he => by
    obtain ⟨e0, h0, _⟩ := cleaned_sub.h k e he
    exact (h.fresh n hn).1.2 k e0 h0⟩, (h.fresh n hn).2⟩, h.gs⟩

/-- What a stretch that began at a clean state leaves of a state. -/
structure Since (P : Program) (n0 : Nz) (nt : Nat) (m : Ms) (β : Nat → Option Nat) (σ : Nat → Option (Nat × Nat)) (s : St0 E N) (a : Act) (w : World) (β' : Nat → Option Nat) (σ' : Nat → Option (Nat × Nat)) (s' : St0 E N) (a' : Act) (w' : World) : Prop where
  sim : Sim P n0 nt β' σ' s' a' w'
  ext : Ext P (fun n => s.st ≤ n) β σ s w β' σ' s' w'
  tmps : ∀ n, ¬ m.t.testBit n = true → a'.tmps.getD n undef = a.tmps.getD n undef
  defers : a'.defers = a.defers
  B : ∀ n e e', s.getB n = some e → n ∉ touched s m → s'.getB n = some e' → e'.dirty = false → e'.cs = e.cs
  H : ∀ n e e', s.getH n = some e → n ∉ lostH s m → s'.getH n = some e' → e'.dirty = false → e'.e = e.e ∧ e'.l = e.l ∧ e'.nw = e.nw ∧ e'.frozen = e.frozen

theorem Post.since {m : Ms} (h : Post P n0 nt s.st (fun n => m.t.testBit n = true) β σ (cleaned s) a w β' σ' s' a' w') : Since P n0 nt m β σ s a w β' σ' s' a' w' where
  sim := h.sim
  ext := ((cleaned_sub.ext P (fun _ => False) β σ w).trans h.ext).weaken (fun n h => h.elim (fun h => h.elim) (fun h => h))
  tmps := h.tmps
  defers := h.defers
  B n e e' h1 _ h2 h3 := by
    have := h.cleanB n e' h2 h3
    rw [cleaned_B, h1] at this
    cases this; rfl
  H n e e' h1 _ h2 h3 := by
    have := h.cleanH n e' h2 h3
    rw [cleaned_H, h1] at this
    cases this; exact ⟨rfl, rfl, rfl, rfl⟩

theorem Since.weaken {m m' : Ms} (h : Since P n0 nt m β σ s a w β' σ' s' a' w') (hle : ∀ n, m.t.testBit n = true → m'.t.testBit n = true) (hB : ∀ n, n ∈ touched s m → n ∈ touched s m') (hH : ∀ n, n ∈ lostH s m → n ∈ lostH s m') :
    Since P n0 nt m' β σ s a w β' σ' s' a' w' :=
  ⟨h.sim, h.ext, fun n hn => h.tmps n (fun k => hn (hle n k)), h.defers, fun n e e' h1 h2 => h.B n e e' h1 (fun k => h2 (hB n k)), fun n e e' h1 h2 => h.H n e e' h1 (fun k => h2 (hH n k))⟩

/-- A way out is brought along, and comes back. -/
theorem way_join (hs : Sim P n0 nt β σ s a w) (wf : WF s) {e : Ex} {m : Ms} {live : Nat} {x : Way (std E N)} (hx : wayOf cfg s e m live = .ok x) (h : Since P n0 nt m β σ s a w β' σ' s' a' w')
    (hcB : ∀ n e, alGet x.base.bx n = some e → ∃ e', s'.getB n = some e' ∧ e'.cs = e.cs) (hcH : ∀ n e, alGet x.base.hp n = some e → ∃ e', s'.getH n = some e' ∧ e'.e = e.e ∧ e'.l = e.l ∧ e'.nw = e.nw ∧ e'.frozen = e.frozen)
    {ls : List SLeaf} (henc : encSlots (O := std E N) s' (x.base.hp.map (·.1)) [] x.slots = .ok ls) {cv : List PV} {j : Nat} (hcv : Holds cv j ls) :
    ∃ σ2, Joined P n0 nt s.st β' σ' s' a' w' x.base x.slots (decSlots (O := std E N) cv j x.base.st x.slots x.base) σ2 := by
  obtain ⟨h1, h2, h3, h4, h5, h6⟩ := wayOf_ok hx
  have nm : ∀ {n : Nat} {P : Prop}, n < s.st ∨ P → (s.st ≤ n → ¬ P) → n < s.st := fun h k => h.elim id (fun p => Nat.lt_of_not_le (fun hle => k hle p))
  suffices hh : ∃ (σ2 : Nat → Option (Nat × Nat)) (S : St0 E N), S = decSlots (O := std E N) cv (j + ([] : List SlotC).length) (s.st + (DecCs E N cv j s.st []).2.length) x.slots { x.base with hp := (DecCs E N cv j s.st []).2 ++ x.base.hp } ∧
      RelCs P n0 β' σ2 S w' (DecCs E N cv j s.st []).1 [] ∧ (∀ n ∈ namesCs (DecCs E N cv j s.st []).1, n < S.st) ∧ Joined P n0 nt s.st β' σ' s' a' w' x.base x.slots S σ2 by
    obtain ⟨σ2, S, hS, _, _, hj⟩ := hh
    refine ⟨σ2, ?_⟩
    have : decSlots (O := std E N) cv j x.base.st x.slots x.base = S := by
      rw [hS]
      show decSlots (O := std E N) cv j x.base.st x.slots x.base = decSlots cv j s.st x.slots x.base
      rw [h2]
    rw [this]; exact hj
  refine join (L := s.st) (base := x.base) (rs := []) (cs := []) (vals := []) h.sim (fun n tv hn => ?_) (fun n e he => ?_) (fun n e he => ?_) trivial (fun b c hm => ?_) (used := []) (ls1 := []) rfl henc (cv := cv) (j := j) (by simpa using hcv)
  · obtain ⟨g1, g2⟩ := h5 n tv hn
    have hlt : ∀ k ∈ tv.v.names, k < s.st := fun k hk => Nat.lt_of_not_le (fun hle => (wf.fresh k hle).2 n tv g1 hk)
    refine ⟨wf.gs n tv g1, ?_, hlt⟩
    rw [h.tmps n g2]
    rcases hs.T n tv g1 with ⟨_, q⟩ | ⟨q, _⟩
    · exact h.ext.relAV (fun k hk hn => by have := hlt k hk; omega) q
    · exact (q (fun n b hm => by rw [wf.gs _ tv g1] at hm; simp at hm)).elim
  · have he' : alGet x.base.bx n = some e := he
    have g3 := hcB n e he'
    rw [h3] at he'
    obtain ⟨g1, g2⟩ := keepB_get.1 he'
    exact ⟨Nat.lt_of_not_le (fun hle => ((wf.fresh n hle).1.1 n e g1).1 rfl), g3, fun k hk => Nat.lt_of_not_le (fun hle => ((wf.fresh k hle).1.1 n e g1).2 hk)⟩
  · have he' : alGet x.base.hp n = some e := he
    have g3 := hcH n e he'
    rw [h4] at he'
    obtain ⟨g1, g2⟩ := keepH_get.1 he'
    exact ⟨Nat.lt_of_not_le (fun hle => (wf.fresh n hle).1.2 n e g1 rfl), g3⟩
  · obtain ⟨_, e, he⟩ := h6 b c hm
    exact Nat.lt_of_not_le (fun hle => ((wf.fresh b hle).1.1 b e he).1 rfl)

theorem Since.kept {e : Ex} {m : Ms} {live : Nat} {x : Way (std E N)} (hx : wayOf cfg s e m live = .ok x) (h : Since P n0 nt m β σ s a w β' σ' s' a' w') (hcB : checkB s' x.base.bx = true) (hcH : checkH s' x.base.hp = true) :
    (∀ n e, alGet x.base.bx n = some e → ∃ e', s'.getB n = some e' ∧ e'.cs = e.cs) ∧ (∀ n e, alGet x.base.hp n = some e → ∃ e', s'.getH n = some e' ∧ e'.e = e.e ∧ e'.l = e.l ∧ e'.nw = e.nw ∧ e'.frozen = e.frozen) := by
  obtain ⟨h1, h2, h3, h4, h5, h6⟩ := wayOf_ok hx
  refine ⟨fun n e he' => ?_, fun n e he' => ?_⟩
  · obtain ⟨e', g3, g4⟩ := checkB_get hcB he'
    rw [h3] at he'
    obtain ⟨g1, g2⟩ := keepB_get.1 he'
    exact ⟨e', g3, h.B n e e' g1 g2 g3 g4⟩
  · obtain ⟨e', g3, g4⟩ := checkH_get hcH he'
    rw [h4] at he'
    obtain ⟨g1, g2⟩ := keepH_get.1 he'
    exact ⟨e', g3, h.H n e e' g1 g2 g3 g4⟩

/-- A joined state, seen from the state before. -/
theorem Joined.post {e : Ex} {m : Ms} {live : Nat} {x : Way (std E N)} {S : St0 E N} {σ2 : Nat → Option (Nat × Nat)} (hx : wayOf cfg s e m live = .ok x) (h : Since P n0 nt m β σ s a w β' σ' s' a' w')
    (hj : Joined P n0 nt s.st β' σ' s' a' w' x.base x.slots S σ2) : Post P n0 nt s.st (fun n => m.t.testBit n = true) β σ s a w β' σ2 S a' w' := by
  obtain ⟨h1, h2, h3, h4, h5, h6⟩ := wayOf_ok hx
  refine ⟨hj.sim, (h.ext.trans hj.ext).weaken (fun n h => h.elim id id), fun n e he hd => ?_, fun n e he hd => ?_, h.defers, h.tmps⟩
  · have := hj.cleanB n e he hd
    have he' : alGet x.base.bx n = some e := this
    rw [h3] at he'
    exact (keepB_get.1 he').1
  · have := hj.cleanH n e he hd
    have he' : alGet x.base.hp n = some e := this
    rw [h4] at he'
    exact (keepH_get.1 he').1

theorem exEq_iff {a b : Ex} : exEq a b = true ↔ a = b := by
  cases a <;> cases b <;> simp [exEq]

/-- The way that is taken. -/
theorem encWays_find {tagged : Bool} {ex : Ex} {c0 : List PV} : ∀ {ws : List (Way (std E N))} {i : Nat}, encWays (O := std E N) tagged ex s' i ws = some c0 →
    ∃ (k : Nat) (x : Way (std E N)), ws[k]? = some x ∧ x.e = ex ∧ (∀ (j : Nat) (y : Way (std E N)), j < k → ws[j]? = some y → y.e ≠ ex) ∧ x.enc (match tagged with | true => some (i + k) | false => none) s' = some c0
  | [], i, h => by cases h
  | x :: ws, i, h => by
    simp only [encWays] at h
    split at h
    · rename_i he
      exact ⟨0, x, rfl, (exEq_iff.1 he).symm, fun j y hj => by omega, h⟩
    · rename_i he
      obtain ⟨k, y, h1, h2, h3, h4⟩ := encWays_find h
      refine ⟨k + 1, y, by simpa using h1, h2, fun j z hj hz => ?_, by rw [show i + (k + 1) = i + 1 + k by omega]; exact h4⟩
      cases j with
      | zero => simp at hz; subst hz; intro e; rw [exEq_iff.2 e.symm] at he; cases he
      | succ j => exact h3 j z (by omega) (by simpa using hz)

def withTag (tag : Option Nat) (l : List PV) : List PV := match tag with
  | some t => .int t :: l
  | none => l

theorem enc_ok {x : Way (std E N)} {tag : Option Nat} {c0 : List PV} (h : x.enc tag s' = some c0) : checkB s' x.base.bx = true ∧ checkH s' x.base.hp = true ∧ ∃ ls, encSlots (O := std E N) s' (x.base.hp.map (·.1)) [] x.slots = .ok ls ∧
    c0 = withTag tag (ls.map Leaf.pv) := by
  unfold Way.enc at h
  split at h
  · rename_i h1 h2
    split at h
    · rename_i ls hl
      refine ⟨h1, h2, ls, hl, ?_⟩
      cases tag with
      | none => exact (Option.some.inj h).symm
      | some t => exact (Option.some.inj h).symm
    · cases h
  · cases h

theorem dispatch_at {c0 : List PV} {k : Ex → St0 E N → Option (List PV)} {r : List PV} {x : Way (std E N)} {t : List PV} : ∀ {ws : List (Way (std E N))} {i n : Nat}, dispatch (O := std E N) c0 k true i ws = some r → c0 = PV.int (i + n : Nat) :: t → ws[n]? = some x → k x.e (x.dec true c0) = some r
  | [], i, n, h, _, hx => by simp at hx
  | [y], i, n, h, hc, hx => by
    cases n with
    | zero => simp at hx; subst hx; exact h
    | succ n => simp at hx
  | y :: z :: ws, i, n, h, hc, hx => by
    have h' : (cond (pvI (cellAt c0 0) == ((i : Nat) : Int)) (k y.e (y.dec true c0)) (dispatch (O := std E N) c0 k true (i + 1) (z :: ws))) = some r := h
    have hp : pvI (cellAt c0 0) = ((i + n : Nat) : Int) := by rw [hc]; rfl
    rw [hp] at h'
    cases n with
    | zero => simp at hx; subst hx; simpa using h'
    | succ n =>
      have : (((i + (n + 1) : Nat) : Int) == ((i : Nat) : Int)) = false := by simp; omega
      rw [this] at h'
      exact dispatch_at (i := i + 1) (n := n) h' (by rw [hc]; congr 2; omega) (by simpa using hx)

/-- The ways of a piece of code. -/
theorem waysOf_mem {A : An} {lv : Lv} {ws : List (Way (std E N))} (h : waysOf cfg s A lv = .ok ws) {k : Nat} {x : Way (std E N)} (hx : ws[k]? = some x) (hfst : ∀ (j : Nat) (y : Way (std E N)), j < k → ws[j]? = some y → y.e ≠ x.e) :
    ∃ m, A.at x.e = some m ∧ wayOf cfg s x.e m (lv.of x.e) = .ok x := by
  unfold waysOf at h
  have hone : ∀ (e : Ex) (o : Option Ms) (l : List (Way (std E N))), oneWay cfg s lv e o = .ok l →
      (o = none ∧ l = []) ∨ ∃ m y, o = some m ∧ l = [y] ∧ wayOf cfg s e m (lv.of e) = .ok y := fun e o l h => by
    cases o with
    | none => cases h; exact .inl ⟨rfl, rfl⟩
    | some m =>
      simp only [oneWay] at h
      split at h
      · rename_i y hy; cases h; exact .inr ⟨m, y, rfl, rfl, hy⟩
      · cases h
  have hexts : ∀ (l : List (Nat × Ms)) (z : List (Way (std E N))), extWays cfg s lv l = .ok z →
      ∀ (k : Nat) (x : Way (std E N)), z[k]? = some x → (∀ (j : Nat) (y : Way (std E N)), j < k → z[j]? = some y → y.e ≠ x.e) → ∃ id m, x.e = .ext id ∧ extsGet l id = some m ∧ wayOf cfg s x.e m (lv.of x.e) = .ok x := fun l => by
    induction l with
    | nil => intro z h k x hx; simp only [extWays] at h; cases h; simp at hx
    | cons p l ih =>
      obtain ⟨id, m⟩ := p
      intro z h k x hx hf
      simp only [extWays] at h
      split at h
      · rename_i a b ha hb
        cases h
        rcases hone (.ext id) (some m) a ha with ⟨h1, _⟩ | ⟨m', y, h1, h2, h3⟩
        · cases h1
        · cases h1; subst h2
          have hye := (wayOf_ok h3).1
          cases k with
          | zero =>
            simp at hx; subst hx
            exact ⟨id, m, hye, by simp only [extsGet, natBeq_iff.2 rfl], by rw [hye]; exact h3⟩
          | succ k =>
            obtain ⟨id', m', q1, q2, q3⟩ := ih b hb k x (by simpa using hx) (fun j y' hj hy => hf (j + 1) y' (by omega) (by simpa using hy))
            refine ⟨id', m', q1, ?_, q3⟩
            have hne := hf 0 y (by omega) rfl
            rw [hye, q1] at hne
            simp only [extsGet]
            rw [natBeq_false.2 (fun e => hne (by rw [e]))]
            exact q2
      · cases h
      · cases h
  split at h
  · rename_i x0 y0 z0 hx0 hy0 hz0
    cases h
    rcases hone .nrm A.nrm x0 hx0 with ⟨a1, a2⟩ | ⟨m1, y1, a1, a2, a3⟩ <;> rcases hone .ret A.ret y0 hy0 with ⟨b1, b2⟩ | ⟨m2, y2, b1, b2, b3⟩
    · subst a2; subst b2
      obtain ⟨id, m, q1, q2, q3⟩ := hexts _ _ hz0 k x (by simpa using hx) (fun j y hj hy => hfst j y hj (by simpa using hy))
      exact ⟨m, by rw [q1]; exact q2, q3⟩
    · subst a2; subst b2
      have hye := (wayOf_ok b3).1
      cases k with
      | zero => simp at hx; subst hx; exact ⟨m2, by rw [hye]; exact b1, by rw [hye]; exact b3⟩
      | succ k =>
        obtain ⟨id, m, q1, q2, q3⟩ := hexts _ _ hz0 k x (by simpa using hx) (fun j y hj hy => hfst (j + 1) y (by omega) (by simpa using hy))
        exact ⟨m, by rw [q1]; exact q2, q3⟩
    · subst a2; subst b2
      have hye := (wayOf_ok a3).1
      cases k with
      | zero => simp at hx; subst hx; exact ⟨m1, by rw [hye]; exact a1, by rw [hye]; exact a3⟩
      | succ k =>
        obtain ⟨id, m, q1, q2, q3⟩ := hexts _ _ hz0 k x (by simpa using hx) (fun j y hj hy => hfst (j + 1) y (by omega) (by simpa using hy))
        exact ⟨m, by rw [q1]; exact q2, q3⟩
    · subst a2; subst b2
      have hye := (wayOf_ok a3).1
      have hye2 := (wayOf_ok b3).1
      match k with
      | 0 => simp at hx; subst hx; exact ⟨m1, by rw [hye]; exact a1, by rw [hye]; exact a3⟩
      | 1 => simp at hx; subst hx; exact ⟨m2, by rw [hye2]; exact b1, by rw [hye2]; exact b3⟩
      | k + 2 =>
        obtain ⟨id, m, q1, q2, q3⟩ := hexts _ _ hz0 k x (by simpa using hx) (fun j y hj hy => hfst (j + 2) y (by omega) (by simpa using hy))
        exact ⟨m, by rw [q1]; exact q2, q3⟩
  · cases h
  · cases h
  · cases h

theorem holds_map {pre : List PV} {ls : List SLeaf} : Holds (pre ++ ls.map Leaf.pv) pre.length ls := fun i l hl => by
  unfold cellAt
  rw [List.getD_eq_getElem?_getD, List.getElem?_append_right (by omega)]
  rw [show pre.length + i - pre.length = i by omega, List.getElem?_map, hl]; rfl

/-- Out of a scope, on the way that is taken. -/
theorem leave (hs : Sim P n0 nt β σ s a w) (wf : WF s) {A : An} {lv : Lv} {ws : List (Way (std E N))} (hws : waysOf cfg s A lv = .ok ws) {ex : Ex} {c0 r : List PV} {k : Ex → St0 E N → Option (List PV)} (h1 : encWays (O := std E N) (Nat.blt 1 ws.length) ex s' 0 ws = some c0)
    (h2 : dispatch (O := std E N) c0 k (Nat.blt 1 ws.length) 0 ws = some r) :
    ∃ m, A.at ex = some m ∧ (Since P n0 nt m β σ s a w β' σ' s' a' w' → ∃ S σ2, k ex S = some r ∧ Post P n0 nt s.st (fun n => m.t.testBit n = true) β σ s a w β' σ2 S a' w' ∧ WF S ∧ s.st ≤ S.st) := by
  obtain ⟨i, x, g1, g2, g3, g4⟩ := encWays_find h1
  subst g2
  obtain ⟨m, q1, q2⟩ := waysOf_mem hws g1 g3
  refine ⟨m, q1, fun hsince => ?_⟩
  cases ht : Nat.blt 1 ws.length with
  | true =>
    rw [ht] at h2 g4
    obtain ⟨e1, e2, ls, e3, e4⟩ := enc_ok g4
    have e4 : c0 = PV.int ((0 + i : Nat) : Int) :: ls.map Leaf.pv := e4
    have hk := dispatch_at h2 e4 g1
    obtain ⟨σ2, hj⟩ := way_join hs wf q2 hsince (hsince.kept q2 e1 e2).1 (hsince.kept q2 e1 e2).2 e3 (cv := c0) (j := 1) (by rw [e4]; exact holds_map (pre := [PV.int ((0 + i : Nat) : Int)]))
    exact ⟨_, σ2, hk, hj.post q2 hsince, hj.wf, hj.st⟩
  | false =>
    rw [ht] at h2 g4
    obtain ⟨e1, e2, ls, e3, e4⟩ := enc_ok g4
    have e4 : c0 = ls.map Leaf.pv := e4
    have hlen : ws.length ≤ 1 := by
      rcases Nat.lt_or_ge 1 ws.length with h | h
      · rw [natBlt_iff.2 h] at ht; cases ht
      · exact h
    have hi := (List.getElem?_eq_some_iff.1 g1).1
    obtain ⟨y, rfl⟩ : ∃ y, ws = [y] := by
      match ws, hlen, hi with
      | [y], _, _ => exact ⟨y, rfl⟩
    have : i = 0 := by simp at hi; exact hi
    subst this
    simp at g1; subst g1
    have hk : k y.e (y.dec false c0) = some r := h2
    obtain ⟨σ2, hj⟩ := way_join hs wf q2 hsince (hsince.kept q2 e1 e2).1 (hsince.kept q2 e1 e2).2 e3 (cv := c0) (j := 0) (by rw [e4]; exact holds_map (pre := []))
    exact ⟨_, σ2, hk, hj.post q2 hsince, hj.wf, hj.st⟩

end
end Go.Px
