/-
Px: code: what the executor finds holds of the machine's run.
-/
import Derived.Test.YtopmcbahdgfleaaGreatPxWay2
namespace Go.Px
set_option linter.unusedVariables false
set_option linter.unusedSimpArgs false

def exitOf : Ex → Exit
  | .nrm => .normal
  | .ext id => .exit id
  | .ret => .ret

abbrev Run (E : Env) (N : Nat) := Code → Bool → Lv → St0 E N → (Ex → St0 E N → Option (List PV)) → Option (List PV)

/-- All ways out are taken care of. -/
def Arr {E : Env} {N : Nat} (P : Program) (n0 : Nz) (nt : Nat) (A : An) (β : Nat → Option Nat) (σ : Nat → Option (Nat × Nat)) (s : St0 E N) (a : Act) (w : World) (k : Ex → St0 E N → Option (List PV)) (r : List PV) (Q : Exit → Act → World → Prop) : Prop :=
  ∀ (ex : Ex) (s' : St0 E N) (β' : Nat → Option Nat) (σ' : Nat → Option (Nat × Nat)) (a' : Act) (w' : World), k ex s' = some r → ∀ m, A.at ex = some m → Post P n0 nt s.st (fun n => m.t.testBit n = true) β σ s a w β' σ' s' a' w' → WF s' → s.st ≤ s'.st → Q (exitOf ex) a' w'

/-- A way of running code that is sound. -/
def CodeOK {E : Env} {N : Nat} (P : Program) (R : Run E N) : Prop :=
  ∀ (n0 : Nz) (nt : Nat) (c : Code), tmpsOk nt c = true → ∀ (light : Bool) (lv : Lv) (s : St0 E N) (k : Ex → St0 E N → Option (List PV)) (r : List PV) (β : Nat → Option Nat) (σ : Nat → Option (Nat × Nat)) (a : Act) (w : World) (Q : Exit → Act → World → Prop),
    R c light lv s k = some r → Sim P n0 nt β σ s a w → WF s → Arr P n0 nt (an P c) β σ s a w k r Q → c.wp P Q a w

section
variable {E : Env} {N : Nat} {P : Program} {cfg : Cfg} {n0 n0' : Nz} {nt : Nat} {β β' : Nat → Option Nat} {σ σ' : Nat → Option (Nat × Nat)} {s s' s2 : St0 E N} {a a' : Act} {w w' : World}

theorem Post.wide {L : Nat} {D D' : Nat → Prop} (h : Post P n0 nt L D β σ s a w β' σ' s' a' w') (hd : ∀ n, D n → D' n) : Post P n0 nt L D' β σ s a w β' σ' s' a' w' :=
  ⟨h.sim, h.ext, h.cleanB, h.cleanH, h.defers, fun n hn => h.tmps n (fun k => hn (hd n k))⟩

theorem Post.refl (hs : Sim P n0 nt β σ s a w) {L : Nat} {D : Nat → Prop} : Post P n0 nt L D β σ s a w β σ s a w :=
  ⟨hs, Ext.refl _ _ _ _ _ _, fun n e h _ => h, fun n e h _ => h, rfl, fun _ _ => rfl⟩

theorem an_seq_a {x y : Code} {ex : Ex} {m : Ms} (hne : ex ≠ .nrm) (h : (an P x).at ex = some m) : Wide ((an P (.seq x y)).at ex) m := by
  simp only [an]
  generalize an P x = A at h ⊢
  obtain ⟨n, r, e⟩ := A
  cases n with
  | none => cases ex <;> first | exact (hne rfl).elim | exact ⟨m, h, Ms.le_refl _⟩
  | some m1 =>
    generalize an P y = B
    obtain ⟨n', r', e'⟩ := B
    cases ex with
    | nrm => exact (hne rfl).elim
    | ret => exact Wide.orL ⟨m, h, Ms.le_refl _⟩
    | ext id => exact Wide.allR ⟨m, h, Ms.le_refl _⟩

theorem an_seq_b {x y : Code} {ex : Ex} {m m' : Ms} (h : (an P x).at .nrm = some m) (k : (an P y).at ex = some m') : Wide ((an P (.seq x y)).at ex) (m.or m') := by
  simp only [an]
  generalize an P x = A at h ⊢
  obtain ⟨n, r, e⟩ := A
  have h : n = some m := h
  subst h
  generalize an P y = B at k ⊢
  obtain ⟨n', r', e'⟩ := B
  cases ex with
  | nrm => exact Wide.then (o := n') ⟨m', k, Ms.le_refl _⟩
  | ret => exact Wide.orR (Wide.then (o := r') ⟨m', k, Ms.le_refl _⟩)
  | ext id => exact Wide.allL (Wide.map (l := e') ⟨m', k, Ms.le_refl _⟩)

theorem an_cond_a {c : Operand} {x y : Code} {ex : Ex} {m : Ms} (h : (an P x).at ex = some m) : Wide ((an P (.cond c x y)).at ex) m := by
  simp only [an]
  generalize an P x = A at h ⊢
  generalize an P y = B
  obtain ⟨n, r, e⟩ := A
  obtain ⟨n', r', e'⟩ := B
  cases ex with
  | nrm => exact Wide.orL ⟨m, h, Ms.le_refl _⟩
  | ret => exact Wide.orL ⟨m, h, Ms.le_refl _⟩
  | ext id => exact Wide.allL (l := e) ⟨m, h, Ms.le_refl _⟩
theorem an_cond_b {c : Operand} {x y : Code} {ex : Ex} {m : Ms} (h : (an P y).at ex = some m) : Wide ((an P (.cond c x y)).at ex) m := by
  simp only [an]
  generalize an P x = A
  generalize an P y = B at h ⊢
  obtain ⟨n, r, e⟩ := A
  obtain ⟨n', r', e'⟩ := B
  cases ex with
  | nrm => exact Wide.orR ⟨m, h, Ms.le_refl _⟩
  | ret => exact Wide.orR ⟨m, h, Ms.le_refl _⟩
  | ext id => exact Wide.allR (r := e') ⟨m, h, Ms.le_refl _⟩

theorem an_block_exit {id : Nat} {x : Code} {m : Ms} (h : (an P x).at (.ext id) = some m) : Wide ((an P (.block id x)).at .nrm) m := by
  simp only [an]
  generalize an P x = A at h ⊢
  obtain ⟨n, r, e⟩ := A
  exact Wide.orR ⟨m, h, Ms.le_refl _⟩
theorem an_block {id : Nat} {x : Code} {ex : Ex} {m : Ms} (h : (an P x).at ex = some m) (hne : ex ≠ .ext id) : Wide ((an P (.block id x)).at ex) m := by
  simp only [an]
  generalize an P x = A at h ⊢
  obtain ⟨n, r, e⟩ := A
  cases ex with
  | nrm => exact Wide.orL ⟨m, h, Ms.le_refl _⟩
  | ret => exact ⟨m, h, Ms.le_refl _⟩
  | ext j =>
    refine ⟨m, ?_, Ms.le_refl _⟩
    show extsGet (extsDel e id) j = some m
    rw [extsGet_del, if_neg (fun hj => hne (by rw [hj]))]
    exact h

theorem an_loop {x : Code} {ex : Ex} {m m' : Ms} (hne : ex ≠ .nrm) (h : (an P x).at .nrm = some m) (k : (an P x).at ex = some m') : Wide ((an P (.loop x)).at ex) (m.or m') := by
  simp only [an]
  generalize an P x = A at h k ⊢
  obtain ⟨n, r, e⟩ := A
  have h : n = some m := h
  subst h
  cases ex with
  | nrm => exact (hne rfl).elim
  | ret => exact Wide.then (o := r) ⟨m', k, Ms.le_refl _⟩
  | ext id => exact Wide.map (l := e) ⟨m', k, Ms.le_refl _⟩

/-- Arrival at a wider mask. -/
theorem Arr.wide {A : An} {k : Ex → St0 E N → Option (List PV)} {r : List PV} {Q : Exit → Act → World → Prop} (hQ : Arr P n0 nt A β σ s a w k r Q) {ex : Ex} {m : Ms} (hm : Wide (A.at ex) m) (hk : k ex s' = some r)
    (hp : Post P n0 nt s.st (fun n => m.t.testBit n = true) β σ s a w β' σ' s' a' w') (wf' : WF s') (hle : s.st ≤ s'.st) : Q (exitOf ex) a' w' := by
  obtain ⟨m2, h1, h2⟩ := hm
  exact hQ ex s' β' σ' a' w' hk m2 h1 (hp.wide (fun n => (h2 n).1)) wf' hle

/-- Out of a scope. -/
theorem Arr.leave {A B : An} {lv : Lv} {ws : List (Way (std E N))} (hs : Sim P n0 nt β σ s a w) (wf : WF s) (hws : waysOf cfg s A lv = .ok ws) {k : Ex → St0 E N → Option (List PV)} {c0 r : List PV} {Q : Exit → Act → World → Prop}
    (hd : dispatch (O := std E N) c0 k (Nat.blt 1 ws.length) 0 ws = some r) (hQ : Arr P n0 nt A β σ s a w k r Q) (hAB : ∀ ex m, B.at ex = some m → Wide (A.at ex) m) :
    Arr P n0 nt B β σ (cleaned s) a w (fun e s' => encWays (O := std E N) (Nat.blt 1 ws.length) e s' 0 ws) c0 Q := by
  intro ex s' β' σ' a' w' hk m hm hp wf' hle
  obtain ⟨m1, q1, q2⟩ := Px.leave (β' := β') (σ' := σ') (a' := a') (w' := w') hs wf hws hk hd
  obtain ⟨m2, q3, q4⟩ := hAB ex m hm
  rw [q1] at q3; cases q3
  obtain ⟨S, σ2, g1, g2, g3, g4⟩ := q2 (hp.wide (fun n => (q4 n).1)).since
  exact hQ ex S β' σ2 a' w' g1 m1 q1 g2 g3 g4

theorem condB_ok (hs : Sim P n0 nt β σ s a w) {c : Operand} {x : Bool} (h : condB (O := std E N) s c = some x) : a.eval c = .bool x := by
  unfold condB at h
  split at h
  · rename_i n
    split at h
    · rename_i b hb
      cases h
      rcases hs.T n _ hb with ⟨_, h1⟩ | ⟨h1, _⟩
      · have h2 : RelVal P n0 β σ s w (⟨false, [.bool x]⟩ : Val (std E N)) (a.tmps.getD n undef) := h1
        obtain ⟨h3, h4⟩ := h2
        have h4 : (a.tmps.getD n undef).oneCell' = true := h4
        rw [cells_one h4] at h3
        exact h3.1
      · exact (h1 (fun n b hm => by simp at hm)).elim
    · cases h
  · rename_i b
    cases h
    cases b <;> rfl
  · cases h

theorem exists_min {p : Nat → Prop} (h : ∃ n, p n) : ∃ n, p n ∧ ∀ m, p m → n ≤ m := by
  obtain ⟨n, hn⟩ := h
  induction n using Nat.strongRecOn with
  | _ n ih =>
    by_cases hx : ∃ m, m < n ∧ p m
    · obtain ⟨m, h1, h2⟩ := hx; exact ih m h1 h2
    · exact ⟨n, hn, fun m hm => Nat.le_of_not_lt (fun hlt => hx ⟨m, hlt, hm⟩)⟩

/-- A loop whose rounds are counted down. -/
theorem wp_loop_count {c : Code} {Q : Exit → Act → World → Prop} (J : Nat → Act → World → Prop) (round : ∀ n a w, J n a w → c.wp P (Exit.then (fun a' w' => ∃ m, m < n ∧ J m a' w') Q) a w) {n : Nat} (h : J n a w) : (Code.loop c).wp P Q a w := by
  classical
  refine wp_loop (fun a w => ∃ n, J n a w) (fun a w => if h : ∃ n, J n a w then Classical.choose (exists_min h) else 0) ⟨n, h⟩ (fun a w hI => ?_)
  have hmin := Classical.choose_spec (exists_min hI)
  refine wp_mono (round _ a w hmin.1) (fun e a' w' hq => ?_)
  cases e with
  | normal =>
    obtain ⟨m, hlt, hm⟩ := hq
    have hI' : ∃ n, J n a' w' := ⟨m, hm⟩
    refine ⟨hI', ?_⟩
    rw [dif_pos hI', dif_pos hI]
    exact Nat.lt_of_le_of_lt ((Classical.choose_spec (exists_min hI')).2 m hm) hlt
  | _ => exact hq

theorem X_ok (hmix : P.follows .mixedOrders = true) (inl : Inl E N) (hInl : InlOK P inl) (hΓ : ∀ ci ∈ cfg.gam, Valid P E N ci ∧ Valid P E N { ci with own := false }) : CodeOK P (X P cfg inl : Run E N) := by
  intro n0 nt c
  induction c with
  | skip =>
    intro _ light lv s k r β σ a w Q h hs wf hQ
    exact wp_skip (hQ .nrm s β σ a w h _ rfl (Post.refl hs) wf (Nat.le_refl _))
  | exit id =>
    intro _ light lv s k r β σ a w Q h hs wf hQ
    refine wp_exit (hQ (.ext id) s β σ a w h ⟨0, 0⟩ ?_ (Post.refl hs) wf (Nat.le_refl _))
    show extsGet [(id, ⟨0, 0⟩)] id = _
    simp only [extsGet, natBeq_iff.2 rfl]
  | ret =>
    intro _ light lv s k r β σ a w Q h hs wf hQ
    exact wp_ret (hQ .ret s β σ a w h ⟨0, 0⟩ rfl (Post.refl hs) wf (Nat.le_refl _))
  | region rid ops draw =>
    intro ht light lv s k r β σ a w Q h hs wf hQ
    have ht : dstsIn nt ops.toList = true := ht
    have h : runRegion (O := std E N) P cfg inl ops.toList draw s (fun s' => k .nrm s') = some r := h
    have fin : ∀ (s' : St0 E N) (β' : Nat → Option Nat) (σ' : Nat → Option (Nat × Nat)) (a' : Act) (w' : World), k .nrm s' = some r → Post P n0 nt s.st (fun n => n ∈ dstList ops.toList) β σ s a w β' σ' s' a' w' → WF s' → s.st ≤ s'.st → Q .normal a' w' :=
      fun s' β' σ' a' w' hk hp wf' hle => hQ .nrm s' β' σ' a' w' hk _ rfl (hp.wide (fun n hn => testBit_dsts hn)) wf' hle
    cases draw with
    | false => exact region_seq inl hInl hΓ ht h hs wf fin
    | true => exact region_draw hmix inl hΓ ht h hs wf fin
  | seq x y ihx ihy =>
    intro ht light lv s k r β σ a w Q h hs wf hQ
    simp only [tmpsOk, Bool.and_eq_true] at ht
    refine wp_seq (ihx ht.1 _ _ s _ r β σ a w _ h hs wf (fun ex s1 β1 σ1 a1 w1 hk m hm hp wf1 hle => ?_))
    cases ex with
    | nrm =>
      refine ihy ht.2 _ _ s1 k r β1 σ1 a1 w1 Q hk hp.sim wf1 (fun ex s2 β2 σ2 a2 w2 hk2 m2 hm2 hp2 wf2 hle2 => ?_)
      refine hQ.wide (an_seq_b hm hm2) hk2 ((hp.trans hp2 hle).wide (fun n hn => ?_)) wf2 (by omega)
      simp only [Ms.or, Nat.testBit_or, Bool.or_eq_true]; exact hn
    | ret => exact hQ.wide (an_seq_a (fun h => by cases h) hm) hk hp wf1 hle
    | ext id => exact hQ.wide (an_seq_a (fun h => by cases h) hm) hk hp wf1 hle
  | cond c x y ihx ihy =>
    intro ht light lv s k r β σ a w Q h hs wf hQ
    simp only [tmpsOk, Bool.and_eq_true] at ht
    simp only [X] at h
    split at h
    · cases h
    rename_i b hb
    have hc := condB_ok hs hb
    split at h
    · have h : (cond b (X P cfg inl x light lv s k) (X P cfg inl y light lv s k)) = some r := h
      cases b with
      | true =>
        refine wp_cond_true hc (ihx ht.1 _ _ s k r β σ a w Q (by simpa using h) hs wf (fun ex s1 β1 σ1 a1 w1 hk m hm hp wf1 hle => ?_))
        exact hQ.wide (an_cond_a hm) hk hp wf1 hle
      | false =>
        refine wp_cond_false hc (ihy ht.2 _ _ s k r β σ a w Q (by simpa using h) hs wf (fun ex s1 β1 σ1 a1 w1 hk m hm hp wf1 hle => ?_))
        exact hQ.wide (an_cond_b hm) hk hp wf1 hle
    · unfold scope at h
      split at h
      · cases h
      rename_i ws hws
      obtain ⟨c0, h1, h2⟩ := Option.bind_eq_some_iff.1 h
      have h1 : (cond b (X P cfg inl x true lv (cleaned s) (fun e s' => encWays (O := std E N) (Nat.blt 1 ws.length) e s' 0 ws)) (X P cfg inl y true lv (cleaned s) (fun e s' => encWays (O := std E N) (Nat.blt 1 ws.length) e s' 0 ws))) = some c0 := h1
      cases b with
      | true => exact wp_cond_true hc (ihx ht.1 _ _ (cleaned s) _ c0 β σ a w Q (by simpa using h1) hs.cleaned wf.cleaned (hQ.leave hs wf hws h2 (fun ex m hm => an_cond_a hm)))
      | false => exact wp_cond_false hc (ihy ht.2 _ _ (cleaned s) _ c0 β σ a w Q (by simpa using h1) hs.cleaned wf.cleaned (hQ.leave hs wf hws h2 (fun ex m hm => an_cond_b hm)))
  | block id x ih =>
    intro ht light lv s k r β σ a w Q h hs wf hQ
    have ht : tmpsOk nt x = true := ht
    have hQ' : Arr P n0 nt (an P x) β σ s a w (fun e s' => match e with
        | .ext i => match Nat.beq i id with
          | true => k .nrm s'
          | false => k e s'
        | e => k e s') r (Exit.inBlock id Q) := by
      intro ex s1 β1 σ1 a1 w1 hk m hm hp wf1 hle
      cases ex with
      | nrm => exact hQ.wide (an_block hm (fun h => by cases h)) hk hp wf1 hle
      | ret => exact hQ.wide (an_block hm (fun h => by cases h)) hk hp wf1 hle
      | ext i =>
        show (if i = id then Q .normal a1 w1 else Q (.exit i) a1 w1)
        simp only at hk
        split at hk
        · rename_i hi
          have := natBeq_iff.1 hi; subst this
          rw [if_pos rfl]
          exact hQ.wide (an_block_exit hm) hk hp wf1 hle
        · rename_i hi
          have hne := natBeq_false.1 hi
          rw [if_neg hne]
          exact hQ.wide (an_block hm (fun h => hne (by cases h; rfl))) hk hp wf1 hle
    simp only [X] at h
    refine wp_block ?_
    split at h
    · exact ih ht _ _ s _ r β σ a w _ h hs wf hQ'
    · unfold scope at h
      split at h
      · cases h
      rename_i ws hws
      obtain ⟨c0, h1, h2⟩ := Option.bind_eq_some_iff.1 h
      exact ih ht _ _ (cleaned s) _ c0 β σ a w _ h1 hs.cleaned wf.cleaned (hQ'.leave hs wf hws h2 (fun ex m hm => ⟨m, hm, Ms.le_refl _⟩))
  | loop x ih =>
    intro ht light lv s k r β σ a w Q h hs wf hQ
    have ht : tmpsOk nt x = true := ht
    simp only [X] at h
    split at h
    · cases h
    rename_i m hm
    split at h
    case h_2 => cases h
    case h_3 => cases h
    rename_i head ws hhead hws
    split at h
    · cases h
    rename_i ls0 henc0
    obtain ⟨c0, h1, h2⟩ := Option.bind_eq_some_iff.1 h
    obtain ⟨g1, g2, g3, g4, g5, g6⟩ := wayOf_ok hhead
    generalize hF : (fun (self : List SLeaf → Option (List PV)) (c : List PV) => X P cfg inl x true { lv with nrm := reads x ||| lv.all } (cleaned (head.dec false c)) (loopK (O := std E N) head ws (Nat.blt 1 ws.length) self)) = F at h1
    have h1 : iter F N (ls0.map Leaf.pv) = some c0 := h1
    -- what holds at the head of each round
    let J : Nat → Act → World → Prop := fun n a1 w1 => ∃ (c : List PV) (β1 : Nat → Option Nat) (σ1 : Nat → Option (Nat × Nat)), iter F n c = some c0 ∧ Sim P n0 nt β1 σ1 (head.dec false c) a1 w1 ∧ Ext P (fun n => s.st ≤ n) β σ s w β1 σ1 (head.dec false c) w1 ∧ WF (head.dec false c) ∧
      s.st ≤ (head.dec false c).st ∧ (∀ n e, (head.dec false c).getB n = some e → head.base.getB n = some e ∨ ∃ c, Slot.b n c ∈ head.slots) ∧ (∀ n h, n < s.st → (head.dec false c).getH n = some h → head.base.getH n = some h) ∧ a1.defers = a.defers ∧ ∀ n, ¬ m.t.testBit n = true → a1.tmps.getD n undef = a.tmps.getD n undef
    have since0 : Since P n0 nt m β σ s a w β σ s a w := ⟨hs, Ext.refl _ _ _ _ _ _, fun _ _ => rfl, rfl, fun n e e' q1 _ q2 _ => by rw [q1] at q2; cases q2; rfl, fun n e e' q1 _ q2 _ => by rw [q1] at q2; cases q2; exact ⟨rfl, rfl, rfl, rfl⟩⟩
    -- a state that is brought to the head
    have toHead : ∀ {n : Nat} {β1 : Nat → Option Nat} {σ1 : Nat → Option (Nat × Nat)} {s1 : St0 E N} {a1 : Act} {w1 : World} {ls : List SLeaf}, Since P n0 nt m β σ s a w β1 σ1 s1 a1 w1 → (∀ n e, alGet head.base.bx n = some e → ∃ e', s1.getB n = some e' ∧ e'.cs = e.cs) → (∀ n e, alGet head.base.hp n = some e → ∃ e', s1.getH n = some e' ∧ e'.e = e.e ∧ e'.l = e.l ∧ e'.nw = e.nw ∧ e'.frozen = e.frozen) → encSlots (O := std E N) s1 (head.base.hp.map (·.1)) [] head.slots = .ok ls →
        iter F n (ls.map Leaf.pv) = some c0 → J n a1 w1 := fun {n β1 σ1 s1 a1 w1 ls} hsi q1 q2 q3 q4 => by
      obtain ⟨σ2, hj⟩ := way_join hs wf hhead hsi q1 q2 q3 (cv := ls.map Leaf.pv) (j := 0) (holds_map (pre := []))
      have hp := hj.post hhead hsi
      exact ⟨ls.map Leaf.pv, β1, σ2, q4, hj.sim, hp.ext, hj.wf, hj.st, hj.oldB, hj.oldH, hsi.defers, hsi.tmps⟩
    have hkeepB : ∀ (n : Nat) (e : BEnt (std E N)), alGet (keepB s (touched s m)) n = some e → alGet head.base.bx n = some e := fun n e he => by rw [g3]; exact he
    -- what a round leaves of the state before the loop
    have fromHead : ∀ {m2 : Ms} {c : List PV} {β1 β2 : Nat → Option Nat} {σ1 σ2 : Nat → Option (Nat × Nat)} {a1 a2 : Act} {w1 w2 : World} {s2 : St0 E N}, m.le m2 → Ext P (fun n => s.st ≤ n) β σ s w β1 σ1 (head.dec false c) w1 → s.st ≤ (head.dec false c).st →
        (∀ n e, (head.dec false c).getB n = some e → head.base.getB n = some e ∨ ∃ c, Slot.b n c ∈ head.slots) → (∀ n h, n < s.st → (head.dec false c).getH n = some h → head.base.getH n = some h) → a1.defers = a.defers → (∀ n, ¬ m.t.testBit n = true → a1.tmps.getD n undef = a.tmps.getD n undef) →
        Post P n0 nt (head.dec false c).st (fun n => m2.t.testBit n = true) β1 σ1 (cleaned (head.dec false c)) a1 w1 β2 σ2 s2 a2 w2 → Since P n0 nt m2 β σ s a w β2 σ2 s2 a2 w2 := fun {m2 c β1 β2 σ1 σ2 a1 a2 w1 w2 s2} hle hx hst hoB hoH hd ht hp => by
      refine ⟨hp.sim, ((hx.trans (cleaned_sub.ext P (fun _ => False) β1 σ1 w1)).trans hp.ext).weaken (fun n hn => ?_), fun n hn => (hp.tmps n hn).trans (ht n (fun h => hn ((hle n).1 h))), hp.defers.trans hd, fun n e e' q1 q2 q3 q4 => ?_, fun n e e' q1 q2 q3 q4 => ?_⟩
      · rcases hn with (hn | hn) | hn
        · exact hn
        · exact hn.elim
        · exact Nat.le_trans hst hn
      · have h5 := hp.cleanB n e' q3 q4
        rw [cleaned_B] at h5
        obtain ⟨e1, h6, h7⟩ := Option.map_eq_some_iff.1 h5
        rcases hoB n e1 h6 with h8 | ⟨c', h8⟩
        · have h8' : alGet head.base.bx n = some e1 := h8
          rw [g3] at h8'
          have := (keepB_get.1 h8').1
          rw [q1] at this; cases this
          rw [← h7]
        · exact (q2 (touched_mono hle (g6 n c' h8).1)).elim
      · have h5 := hp.cleanH n e' q3 q4
        rw [cleaned_H] at h5
        obtain ⟨e1, h6, h7⟩ := Option.map_eq_some_iff.1 h5
        have hn : n < s.st := Nat.lt_of_not_le (fun hle => (wf.fresh n hle).1.2 n e q1 rfl)
        have h8 := hoH n e1 hn h6
        have h8' : alGet head.base.hp n = some e1 := h8
        rw [g4] at h8'
        have := (keepH_get.1 h8').1
        rw [q1] at this; cases this
        rw [← h7]; exact ⟨rfl, rfl, rfl, rfl⟩
    refine wp_loop_count J (fun n a1 w1 hJ => ?_) (n := N) (a := a) (w := w) ?_
    · obtain ⟨c, β1, σ1, hit, hs1, hx1, wf1, hst1, hoB1, hoH1, hd1, ht1⟩ := hJ
      cases n with
      | zero => cases hit
      | succ n =>
        have hit : F (fun ls => iter F n (ls.map Leaf.pv)) c = some c0 := hit
        rw [← hF] at hit
        refine ih ht _ _ (cleaned (head.dec false c)) _ c0 β1 σ1 a1 w1 _ hit hs1.cleaned wf1.cleaned (fun ex s2 β2 σ2 a2 w2 hk m2 hm2 hp wf2 hle => ?_)
        cases ex with
        | nrm =>
          have : m2 = m := by
            have h3 : (an P x).nrm = some m2 := hm2
            rw [hm] at h3; cases h3; rfl
          subst this
          simp only [loopK] at hk
          split at hk
          · rename_i q1 q2
            split at hk
            · rename_i ls q3
              have hsi := fromHead (Ms.le_refl _) hx1 hst1 hoB1 hoH1 hd1 ht1 hp
              exact ⟨n, Nat.lt_succ_self n, toHead hsi (hsi.kept hhead q1 q2).1 (hsi.kept hhead q1 q2).2 q3 (by rw [← hF]; exact hk)⟩
            · cases hk
          · cases hk
        | ret =>
          obtain ⟨m3, q1, q2⟩ := an_loop (P := P) (x := x) (ex := .ret) (fun h => by cases h) hm hm2
          have hle1 : m.le m3 := Ms.le_trans (Ms.le_or_left _ _) q2
          have hle2 : m2.le m3 := Ms.le_trans (Ms.le_or_right _ _) q2
          have hsi := fromHead hle1 hx1 hst1 hoB1 hoH1 hd1 ht1 (hp.wide (fun n => (hle2 n).1))
          obtain ⟨m4, r1, r2⟩ := Px.leave (β' := β2) (σ' := σ2) (a' := a2) (w' := w2) hs wf hws hk h2
          rw [q1] at r1; cases r1
          obtain ⟨S, σ3, t1, t2, t3, t4⟩ := r2 hsi
          exact hQ .ret S β2 σ3 a2 w2 t1 m3 q1 t2 t3 t4
        | ext id =>
          obtain ⟨m3, q1, q2⟩ := an_loop (P := P) (x := x) (ex := .ext id) (fun h => by cases h) hm hm2
          have hle1 : m.le m3 := Ms.le_trans (Ms.le_or_left _ _) q2
          have hle2 : m2.le m3 := Ms.le_trans (Ms.le_or_right _ _) q2
          have hsi := fromHead hle1 hx1 hst1 hoB1 hoH1 hd1 ht1 (hp.wide (fun n => (hle2 n).1))
          obtain ⟨m4, r1, r2⟩ := Px.leave (β' := β2) (σ' := σ2) (a' := a2) (w' := w2) hs wf hws hk h2
          rw [q1] at r1; cases r1
          obtain ⟨S, σ3, t1, t2, t3, t4⟩ := r2 hsi
          exact hQ (.ext id) S β2 σ3 a2 w2 t1 m3 q1 t2 t3 t4
    · -- at the start nothing has been checked yet: the state is as it was
      exact toHead since0 (fun n e he => ⟨e, by rw [g3] at he; exact (keepB_get.1 he).1, rfl⟩) (fun n e he => ⟨e, by rw [g4] at he; exact (keepH_get.1 he).1, rfl, rfl, rfl, rfl⟩) henc0 h1
  | _ =>
    intro _ light lv s k r β σ a w Q h hs wf hQ
    cases h

end
end Go.Px
