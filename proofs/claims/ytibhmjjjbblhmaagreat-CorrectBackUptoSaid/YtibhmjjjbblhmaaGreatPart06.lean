/- Part 6. -/
import Derived.Test.YtibhmjjjbblhmaaGreatPart05
import Derived.WalkSpells
import Derived.Lib.Bytealg
import Derived.Lib.Strings
import Derived.Lib.Join
import Derived.Lib.ItoaNum
import Derived.Below
set_option linter.unusedVariables false
set_option linter.unusedSimpArgs false
section
namespace Go.Px
def bK : Ex → Exit
 | .nrm => .normal
 | .ext id => .exit id
 | .ret => .ret
abbrev Run (E : Env) (N : Nat) := Code → Bool → Lv → St0 E N → (Ex → St0 E N → Option (List PV)) → Option (List PV)
def Arr {E : Env} {N : Nat} (P : Program) (n0 : Nz) (nt : Nat) (A : An) (β : Nat → Option Nat) (σ : Nat → Option (Nat × Nat)) (s : St0 E N) (a : Act) (w : World) (k : Ex → St0 E N → Option (List PV)) (r : List PV) (Q : Exit → Act → World → Prop) : Prop :=
 ∀ (ex : Ex) (s' : St0 E N) (β' : Nat → Option Nat) (σ' : Nat → Option (Nat × Nat)) (a' : Act) (w' : World), k ex s' = some r → ∀ m, A.at ex = some m → Post P n0 nt s.st (fun n => m.t.testBit n = true) β σ s a w β' σ' s' a' w' → WF s' → s.st ≤ s'.st → Q (bK ex) a' w'
def cl {E : Env} {N : Nat} (P : Program) (R : Run E N) : Prop :=
 ∀ (n0 : Nz) (nt : Nat) (c : Code), CJ nt c = true → ∀ (light : Bool) (lv : Lv) (s : St0 E N) (k : Ex → St0 E N → Option (List PV)) (r : List PV) (β : Nat → Option Nat) (σ : Nat → Option (Nat × Nat)) (a : Act) (w : World) (Q : Exit → Act → World → Prop),
  R c light lv s k = some r → Sim P n0 nt β σ s a w → WF s → Arr P n0 nt (an P c) β σ s a w k r Q → c.wp P Q a w
section
variable {E : Env} {N : Nat} {P : Program} {cfg : Cfg} {n0 n0' : Nz} {nt : Nat} {β β' : Nat → Option Nat} {σ σ' : Nat → Option (Nat × Nat)} {s s' s2 : St0 E N} {a a' : Act} {w w' : World}
theorem Post.wide {L : Nat} {D D' : Nat → Prop} (h : Post P n0 nt L D β σ s a w β' σ' s' a' w') (hd : ∀ n, D n → D' n) : Post P n0 nt L D' β σ s a w β' σ' s' a' w' :=
 ⟨h.sim, h.ext, h.cleanB, h.cleanH, h.defers, fun n hn => h.tmps n (fun k => hn (hd n k))⟩
theorem Post.refl (hs : Sim P n0 nt β σ s a w) {L : Nat} {D : Nat → Prop} : Post P n0 nt L D β σ s a w β σ s a w :=
 ⟨hs, Ext.refl _ _ _ _ _ _, fun n e h _ => h, fun n e h _ => h, rfl, fun _ _ => rfl⟩
theorem ay {x y : Code} {ex : Ex} {m : Ms} (hne : ex ≠ .nrm) (h : (an P x).at ex = some m) : Wide ((an P (.seq x y)).at ex) m := by
 simp only [an]
 generalize an P x = A at h ⊢
 obtain ⟨n, r, e⟩ := A
 cases n with
 | none => cases ex <;> first | exact (hne rfl).elim | exact ⟨m, h, Ms.le_refl _⟩
 | some m1 =>
  generalize an P y = B
  obtain ⟨n', r', e'⟩ := B
  cases ex with
  | nrm => exact (hne rfl).elim
  | ret => exact Wide.orL ⟨m, h, Ms.le_refl _⟩
  | ext id => exact Wide.allR ⟨m, h, Ms.le_refl _⟩
theorem hO {x y : Code} {ex : Ex} {m m' : Ms} (h : (an P x).at .nrm = some m) (k : (an P y).at ex = some m') : Wide ((an P (.seq x y)).at ex) (m.or m') := by
 simp only [an]
 generalize an P x = A at h ⊢
 obtain ⟨n, r, e⟩ := A
 have h : n = some m := h
 subst h
 generalize an P y = B at k ⊢
 obtain ⟨n', r', e'⟩ := B
 cases ex with
 | nrm => exact Wide.then (o := n') ⟨m', k, Ms.le_refl _⟩
 | ret => exact Wide.orR (Wide.then (o := r') ⟨m', k, Ms.le_refl _⟩)
 | ext id => exact Wide.allL (Wide.map (l := e') ⟨m', k, Ms.le_refl _⟩)
theorem ZP {c : Operand} {x y : Code} {ex : Ex} {m : Ms} (h : (an P x).at ex = some m) : Wide ((an P (.cond c x y)).at ex) m := by
 simp only [an]
 generalize an P x = A at h ⊢
 generalize an P y = B
 obtain ⟨n, r, e⟩ := A
 obtain ⟨n', r', e'⟩ := B
 cases ex with
 | nrm => exact Wide.orL ⟨m, h, Ms.le_refl _⟩
 | ret => exact Wide.orL ⟨m, h, Ms.le_refl _⟩
 | ext id => exact Wide.allL (l := e) ⟨m, h, Ms.le_refl _⟩
theorem Zl {c : Operand} {x y : Code} {ex : Ex} {m : Ms} (h : (an P y).at ex = some m) : Wide ((an P (.cond c x y)).at ex) m := by
 simp only [an]
 generalize an P x = A
 generalize an P y = B at h ⊢
 obtain ⟨n, r, e⟩ := A
 obtain ⟨n', r', e'⟩ := B
 cases ex with
 | nrm => exact Wide.orR ⟨m, h, Ms.le_refl _⟩
 | ret => exact Wide.orR ⟨m, h, Ms.le_refl _⟩
 | ext id => exact Wide.allR (r := e') ⟨m, h, Ms.le_refl _⟩
theorem Zy {id : Nat} {x : Code} {m : Ms} (h : (an P x).at (.ext id) = some m) : Wide ((an P (.block id x)).at .nrm) m := by
 simp only [an]
 generalize an P x = A at h ⊢
 obtain ⟨n, r, e⟩ := A
 exact Wide.orR ⟨m, h, Ms.le_refl _⟩
theorem Wp {id : Nat} {x : Code} {ex : Ex} {m : Ms} (h : (an P x).at ex = some m) (hne : ex ≠ .ext id) : Wide ((an P (.block id x)).at ex) m := by
 simp only [an]
 generalize an P x = A at h ⊢
 obtain ⟨n, r, e⟩ := A
 cases ex with
 | nrm => exact Wide.orL ⟨m, h, Ms.le_refl _⟩
 | ret => exact ⟨m, h, Ms.le_refl _⟩
 | ext j =>
  refine ⟨m, ?_, Ms.le_refl _⟩
  show Ar (Kt e id) j = some m
  rw [WG, if_neg (fun hj => hne (by rw [hj]))]
  exact h
theorem dp {x : Code} {ex : Ex} {m m' : Ms} (hne : ex ≠ .nrm) (h : (an P x).at .nrm = some m) (k : (an P x).at ex = some m') : Wide ((an P (.loop x)).at ex) (m.or m') := by
 simp only [an]
 generalize an P x = A at h k ⊢
 obtain ⟨n, r, e⟩ := A
 have h : n = some m := h
 subst h
 cases ex with
 | nrm => exact (hne rfl).elim
 | ret => exact Wide.then (o := r) ⟨m', k, Ms.le_refl _⟩
 | ext id => exact Wide.map (l := e) ⟨m', k, Ms.le_refl _⟩
theorem Arr.wide {A : An} {k : Ex → St0 E N → Option (List PV)} {r : List PV} {Q : Exit → Act → World → Prop} (hQ : Arr P n0 nt A β σ s a w k r Q) {ex : Ex} {m : Ms} (hm : Wide (A.at ex) m) (hk : k ex s' = some r)
    (hp : Post P n0 nt s.st (fun n => m.t.testBit n = true) β σ s a w β' σ' s' a' w') (wf' : WF s') (hle : s.st ≤ s'.st) : Q (bK ex) a' w' := by
  obtain ⟨m2, h1, h2⟩ := hm
  exact hQ ex s' β' σ' a' w' hk m2 h1 (hp.wide (fun n => (h2 n).1)) wf' hle
theorem Arr.leave {A B : An} {lv : Lv} {ws : List (Way (std E N))} (hs : Sim P n0 nt β σ s a w) (wf : WF s) (hws : SA cfg s A lv = .ok ws) {k : Ex → St0 E N → Option (List PV)} {c0 r : List PV} {Q : Exit → Act → World → Prop}
    (hd : KO (O := std E N) c0 k (Nat.blt 1 ws.length) 0 ws = some r) (hQ : Arr P n0 nt A β σ s a w k r Q) (hAB : ∀ ex m, B.at ex = some m → Wide (A.at ex) m) :
    Arr P n0 nt B β σ (cleaned s) a w (fun e s' => Iq (O := std E N) (Nat.blt 1 ws.length) e s' 0 ws) c0 Q := by
  intro ex s' β' σ' a' w' hk m hm hp wf' hle
  obtain ⟨m1, q1, q2⟩ := Px.leave (β' := β') (σ' := σ') (a' := a') (w' := w') hs wf hws hk hd
  obtain ⟨m2, q3, q4⟩ := hAB ex m hm
  rw [q1] at q3; cases q3
  obtain ⟨S, σ2, g1, g2, g3, g4⟩ := q2 (hp.wide (fun n => (q4 n).1)).since
  exact hQ ex S β' σ2 a' w' g1 m1 q1 g2 g3 g4
theorem gl (hs : Sim P n0 nt β σ s a w) {c : Operand} {x : Bool} (h : dr (O := std E N) s c = some x) : a.eval c = .bool x := by
 unfold dr at h
 split at h
 ·rename_i n
  split at h
  ·rename_i b hb
   cases h
   rcases hs.T n _ hb with ⟨_, h1⟩ | ⟨h1, _⟩
   ·have h2 : RelVal P n0 β σ s w (⟨false, [.bool x]⟩ : Val (std E N)) (a.tmps.getD n undef) := h1
    obtain ⟨h3, h4⟩ := h2
    have h4 : (a.tmps.getD n undef).oneCell' = true := h4
    rw [BE h4] at h3
    exact h3.1
   ·exact (h1 (fun n b hm => by simp at hm)).elim
  ·cases h
 ·rename_i b
  cases h
  cases b <;> rfl
 ·cases h
theorem SM {p : Nat → Prop} (h : ∃ n, p n) : ∃ n, p n ∧ ∀ m, p m → n ≤ m := by
 obtain ⟨n, hn⟩ := h
 induction n using Nat.strongRecOn with
 | _ n ih =>
  by_cases hx : ∃ m, m < n ∧ p m
  ·obtain ⟨m, h1, h2⟩ := hx; exact ih m h1 h2
  ·exact ⟨n, hn, fun m hm => Nat.le_of_not_lt (fun hlt => hx ⟨m, hlt, hm⟩)⟩
theorem aA {c : Code} {Q : Exit → Act → World → Prop} (J : Nat → Act → World → Prop) (round : ∀ n a w, J n a w → c.wp P (Exit.then (fun a' w' => ∃ m, m < n ∧ J m a' w') Q) a w) {n : Nat} (h : J n a w) : (Code.loop c).wp P Q a w := by
 classical
 refine wp_loop (fun a w => ∃ n, J n a w) (fun a w => if h : ∃ n, J n a w then Classical.choose (SM h) else 0) ⟨n, h⟩ (fun a w hI => ?_)
 have hmin := Classical.choose_spec (SM hI)
 refine wp_mono (round _ a w hmin.1) (fun e a' w' hq => ?_)
 cases e with
 | normal =>
  obtain ⟨m, hlt, hm⟩ := hq
  have hI' : ∃ n, J n a' w' := ⟨m, hm⟩
  refine ⟨hI', ?_⟩
  rw [dif_pos hI', dif_pos hI]
  exact Nat.lt_of_le_of_lt ((Classical.choose_spec (SM hI')).2 m hm) hlt
 | _ => exact hq
theorem ki (hmix : P.follows .mixedOrders = true) (inl : Inl E N) (hInl : aJ P inl) (hΓ : ∀ ci ∈ cfg.gam, BT P E N ci ∧ BT P E N { ci with own := false }) : cl P (X P cfg inl : Run E N) := by
  intro n0 nt c
  induction c with
  | skip =>
    intro _ light lv s k r β σ a w Q h hs wf hQ
    exact wp_skip (hQ .nrm s β σ a w h _ rfl (Post.refl hs) wf (Nat.le_refl _))
  | exit id =>
    intro _ light lv s k r β σ a w Q h hs wf hQ
    refine wp_exit (hQ (.ext id) s β σ a w h ⟨0, 0⟩ ?_ (Post.refl hs) wf (Nat.le_refl _))
    show Ar [(id, ⟨0, 0⟩)] id = _
    simp only [Ar, AA.2 rfl]
  | ret =>
    intro _ light lv s k r β σ a w Q h hs wf hQ
    exact wp_ret (hQ .ret s β σ a w h ⟨0, 0⟩ rfl (Post.refl hs) wf (Nat.le_refl _))
  | region rid ops draw =>
    intro ht light lv s k r β σ a w Q h hs wf hQ
    have ht : Jn nt ops.toList = true := ht
    have h : (match ops.toList.any Yh with
      | true => (std E N).assert (std E N).ff ((std E N).ret [])
      | false => Id (O := std E N) P cfg inl ops.toList draw s (fun s' => k .nrm s')) = some r := h
    have h : Id (O := std E N) P cfg inl ops.toList draw s (fun s' => k .nrm s') = some r := by
      cases hp : ops.toList.any Yh with
      | true => rw [hp] at h; cases h
      | false => rw [hp] at h; exact h
    have fin : ∀ (s' : St0 E N) (β' : Nat → Option Nat) (σ' : Nat → Option (Nat × Nat)) (a' : Act) (w' : World), k .nrm s' = some r → Post P n0 nt s.st (fun n => n ∈ AW ops.toList) β σ s a w β' σ' s' a' w' → WF s' → s.st ≤ s'.st → Q .normal a' w' :=
      fun s' β' σ' a' w' hk hp wf' hle => hQ .nrm s' β' σ' a' w' hk _ rfl (hp.wide (fun n hn => Pv hn)) wf' hle
    cases draw with
    | false => exact eP inl hInl hΓ ht h hs wf fin
    | true => exact dV hmix inl hΓ ht h hs wf fin
  | seq x y ihx ihy =>
    intro ht light lv s k r β σ a w Q h hs wf hQ
    simp only [CJ, Bool.and_eq_true] at ht
    refine wp_seq (ihx ht.1 _ _ s _ r β σ a w _ h hs wf (fun ex s1 β1 σ1 a1 w1 hk m hm hp wf1 hle => ?_))
    cases ex with
    | nrm =>
      refine ihy ht.2 _ _ s1 k r β1 σ1 a1 w1 Q hk hp.sim wf1 (fun ex s2 β2 σ2 a2 w2 hk2 m2 hm2 hp2 wf2 hle2 => ?_)
      refine hQ.wide (hO hm hm2) hk2 ((hp.trans hp2 hle).wide (fun n hn => ?_)) wf2 (by omega)
      simp only [Ms.or, Nat.testBit_or, Bool.or_eq_true]; exact hn
    | ret => exact hQ.wide (ay (fun h => by cases h) hm) hk hp wf1 hle
    | ext id => exact hQ.wide (ay (fun h => by cases h) hm) hk hp wf1 hle
  | cond c x y ihx ihy =>
    intro ht light lv s k r β σ a w Q h hs wf hQ
    simp only [CJ, Bool.and_eq_true] at ht
    simp only [X] at h
    split at h
    · cases h
    rename_i b hb
    have hc := gl hs hb
    split at h
    · have h : (cond b (X P cfg inl x light lv s k) (X P cfg inl y light lv s k)) = some r := h
      cases b with
      | true =>
        refine wp_cond_true hc (ihx ht.1 _ _ s k r β σ a w Q (by simpa using h) hs wf (fun ex s1 β1 σ1 a1 w1 hk m hm hp wf1 hle => ?_))
        exact hQ.wide (ZP hm) hk hp wf1 hle
      | false =>
        refine wp_cond_false hc (ihy ht.2 _ _ s k r β σ a w Q (by simpa using h) hs wf (fun ex s1 β1 σ1 a1 w1 hk m hm hp wf1 hle => ?_))
        exact hQ.wide (Zl hm) hk hp wf1 hle
    · unfold scope at h
      split at h
      · cases h
      rename_i ws hws
      obtain ⟨c0, h1, h2⟩ := Option.bind_eq_some_iff.1 h
      have h1 : (cond b (X P cfg inl x true lv (cleaned s) (fun e s' => Iq (O := std E N) (Nat.blt 1 ws.length) e s' 0 ws)) (X P cfg inl y true lv (cleaned s) (fun e s' => Iq (O := std E N) (Nat.blt 1 ws.length) e s' 0 ws))) = some c0 := h1
      cases b with
      | true => exact wp_cond_true hc (ihx ht.1 _ _ (cleaned s) _ c0 β σ a w Q (by simpa using h1) hs.cleaned wf.cleaned (hQ.leave hs wf hws h2 (fun ex m hm => ZP hm)))
      | false => exact wp_cond_false hc (ihy ht.2 _ _ (cleaned s) _ c0 β σ a w Q (by simpa using h1) hs.cleaned wf.cleaned (hQ.leave hs wf hws h2 (fun ex m hm => Zl hm)))
  | block id x ih =>
    intro ht light lv s k r β σ a w Q h hs wf hQ
    have ht : CJ nt x = true := ht
    have hQ' : Arr P n0 nt (an P x) β σ s a w (fun e s' => match e with
        | .ext i => match Nat.beq i id with
          | true => k .nrm s'
          | false => k e s'
        | e => k e s') r (Exit.inBlock id Q) := by
      intro ex s1 β1 σ1 a1 w1 hk m hm hp wf1 hle
      cases ex with
      | nrm => exact hQ.wide (Wp hm (fun h => by cases h)) hk hp wf1 hle
      | ret => exact hQ.wide (Wp hm (fun h => by cases h)) hk hp wf1 hle
      | ext i =>
        show (if i = id then Q .normal a1 w1 else Q (.exit i) a1 w1)
        simp only at hk
        split at hk
        · rename_i hi
          have := AA.1 hi; subst this
          rw [if_pos rfl]
          exact hQ.wide (Zy hm) hk hp wf1 hle
        · rename_i hi
          have hne := BD.1 hi
          rw [if_neg hne]
          exact hQ.wide (Wp hm (fun h => hne (by cases h; rfl))) hk hp wf1 hle
    simp only [X] at h
    refine wp_block ?_
    split at h
    · exact ih ht _ _ s _ r β σ a w _ h hs wf hQ'
    · unfold scope at h
      split at h
      · cases h
      rename_i ws hws
      obtain ⟨c0, h1, h2⟩ := Option.bind_eq_some_iff.1 h
      exact ih ht _ _ (cleaned s) _ c0 β σ a w _ h1 hs.cleaned wf.cleaned (hQ'.leave hs wf hws h2 (fun ex m hm => ⟨m, hm, Ms.le_refl _⟩))
  | loop x ih =>
    intro ht light lv s k r β σ a w Q h hs wf hQ
    have ht : CJ nt x = true := ht
    simp only [X] at h
    split at h
    · cases h
    rename_i m hm
    split at h
    case h_2 => cases h
    case h_3 => cases h
    rename_i head ws hhead hws
    split at h
    · cases h
    rename_i ls0 henc0
    obtain ⟨c0, h1, h2⟩ := Option.bind_eq_some_iff.1 h
    obtain ⟨g1, g2, g3, g4, g5, g6⟩ := G4 hhead
    generalize hF : (fun (self : List Ab → Option (List PV)) (c : List PV) => X P cfg inl x true { lv with nrm := QM x ||| lv.all } (cleaned (head.dec false c)) (eF (O := std E N) head ws (Nat.blt 1 ws.length) self)) = F at h1
    have h1 : Hd F N (ls0.map Leaf.pv) = some c0 := h1
    let J : Nat → Act → World → Prop := fun n a1 w1 => ∃ (c : List PV) (β1 : Nat → Option Nat) (σ1 : Nat → Option (Nat × Nat)), Hd F n c = some c0 ∧ Sim P n0 nt β1 σ1 (head.dec false c) a1 w1 ∧ Ext P (fun n => s.st ≤ n) β σ s w β1 σ1 (head.dec false c) w1 ∧ WF (head.dec false c) ∧
      s.st ≤ (head.dec false c).st ∧ (∀ n e, (head.dec false c).getB n = some e → head.base.getB n = some e ∨ ∃ c, Slot.b n c ∈ head.slots) ∧ (∀ n h, n < s.st → (head.dec false c).getH n = some h → head.base.getH n = some h) ∧ a1.defers = a.defers ∧ ∀ n, ¬ m.t.testBit n = true → a1.tmps.getD n undef = a.tmps.getD n undef
    have since0 : Since P n0 nt m β σ s a w β σ s a w := ⟨hs, Ext.refl _ _ _ _ _ _, fun _ _ => rfl, rfl, fun n e e' q1 _ q2 _ => by rw [q1] at q2; cases q2; rfl, fun n e e' q1 _ q2 _ => by rw [q1] at q2; cases q2; exact ⟨rfl, rfl, rfl, rfl⟩⟩
    have toHead : ∀ {n : Nat} {β1 : Nat → Option Nat} {σ1 : Nat → Option (Nat × Nat)} {s1 : St0 E N} {a1 : Act} {w1 : World} {ls : List Ab}, Since P n0 nt m β σ s a w β1 σ1 s1 a1 w1 → (∀ n e, AE head.base.bx n = some e → ∃ e', s1.getB n = some e' ∧ e'.cs = e.cs) → (∀ n e, AE head.base.hp n = some e → ∃ e', s1.getH n = some e' ∧ e'.e = e.e ∧ e'.l = e.l ∧ e'.nw = e.nw ∧ e'.frozen = e.frozen) → C5 (O := std E N) s1 (head.base.hp.map (·.1)) [] head.slots = .ok ls →
        Hd F n (ls.map Leaf.pv) = some c0 → J n a1 w1 := fun {n β1 σ1 s1 a1 w1 ls} hsi q1 q2 q3 q4 => by
      obtain ⟨σ2, hj⟩ := W8 hs wf hhead hsi q1 q2 q3 (cv := ls.map Leaf.pv) (j := 0) (NL (pre := []))
      have hp := hj.post hhead hsi
      exact ⟨ls.map Leaf.pv, β1, σ2, q4, hj.sim, hp.ext, hj.wf, hj.st, hj.oldB, hj.oldH, hsi.defers, hsi.tmps⟩
    have hkeepB : ∀ (n : Nat) (e : BEnt (std E N)), AE (LY s (CG s m)) n = some e → AE head.base.bx n = some e := fun n e he => by rw [g3]; exact he
    have fromHead : ∀ {m2 : Ms} {c : List PV} {β1 β2 : Nat → Option Nat} {σ1 σ2 : Nat → Option (Nat × Nat)} {a1 a2 : Act} {w1 w2 : World} {s2 : St0 E N}, m.le m2 → Ext P (fun n => s.st ≤ n) β σ s w β1 σ1 (head.dec false c) w1 → s.st ≤ (head.dec false c).st →
        (∀ n e, (head.dec false c).getB n = some e → head.base.getB n = some e ∨ ∃ c, Slot.b n c ∈ head.slots) → (∀ n h, n < s.st → (head.dec false c).getH n = some h → head.base.getH n = some h) → a1.defers = a.defers → (∀ n, ¬ m.t.testBit n = true → a1.tmps.getD n undef = a.tmps.getD n undef) →
        Post P n0 nt (head.dec false c).st (fun n => m2.t.testBit n = true) β1 σ1 (cleaned (head.dec false c)) a1 w1 β2 σ2 s2 a2 w2 → Since P n0 nt m2 β σ s a w β2 σ2 s2 a2 w2 := fun {m2 c β1 β2 σ1 σ2 a1 a2 w1 w2 s2} hle hx hst hoB hoH hd ht hp => by
      refine ⟨hp.sim, ((hx.trans (HT.ext P (fun _ => False) β1 σ1 w1)).trans hp.ext).weaken (fun n hn => ?_), fun n hn => (hp.tmps n hn).trans (ht n (fun h => hn ((hle n).1 h))), hp.defers.trans hd, fun n e e' q1 q2 q3 q4 => ?_, fun n e e' q1 q2 q3 q4 => ?_⟩
      · rcases hn with (hn | hn) | hn
        · exact hn
        · exact hn.elim
        · exact Nat.le_trans hst hn
      · have h5 := hp.cleanB n e' q3 q4
        rw [U1] at h5
        obtain ⟨e1, h6, h7⟩ := Option.map_eq_some_iff.1 h5
        rcases hoB n e1 h6 with h8 | ⟨c', h8⟩
        · have h8' : AE head.base.bx n = some e1 := h8
          rw [g3] at h8'
          have := (IG.1 h8').1
          rw [q1] at this; cases this
          rw [← h7]
        · exact (q2 (bG hle (g6 n c' h8).1)).elim
      · have h5 := hp.cleanH n e' q3 q4
        rw [Uj] at h5
        obtain ⟨e1, h6, h7⟩ := Option.map_eq_some_iff.1 h5
        have hn : n < s.st := Nat.lt_of_not_le (fun hle => (wf.fresh n hle).1.2 n e q1 rfl)
        have h8 := hoH n e1 hn h6
        have h8' : AE head.base.hp n = some e1 := h8
        rw [g4] at h8'
        have := (II.1 h8').1
        rw [q1] at this; cases this
        rw [← h7]; exact ⟨rfl, rfl, rfl, rfl⟩
    refine aA J (fun n a1 w1 hJ => ?_) (n := N) (a := a) (w := w) ?_
    · obtain ⟨c, β1, σ1, hit, hs1, hx1, wf1, hst1, hoB1, hoH1, hd1, ht1⟩ := hJ
      cases n with
      | zero => cases hit
      | succ n =>
        have hit : F (fun ls => Hd F n (ls.map Leaf.pv)) c = some c0 := hit
        rw [← hF] at hit
        refine ih ht _ _ (cleaned (head.dec false c)) _ c0 β1 σ1 a1 w1 _ hit hs1.cleaned wf1.cleaned (fun ex s2 β2 σ2 a2 w2 hk m2 hm2 hp wf2 hle => ?_)
        cases ex with
        | nrm =>
          have : m2 = m := by
            have h3 : (an P x).nrm = some m2 := hm2
            rw [hm] at h3; cases h3; rfl
          subst this
          simp only [eF] at hk
          split at hk
          · rename_i q1 q2
            split at hk
            · rename_i ls q3
              have hsi := fromHead (Ms.le_refl _) hx1 hst1 hoB1 hoH1 hd1 ht1 hp
              exact ⟨n, Nat.lt_succ_self n, toHead hsi (hsi.kept hhead q1 q2).1 (hsi.kept hhead q1 q2).2 q3 (by rw [← hF]; exact hk)⟩
            · cases hk
          · cases hk
        | ret =>
          obtain ⟨m3, q1, q2⟩ := dp (P := P) (x := x) (ex := .ret) (fun h => by cases h) hm hm2
          have hle1 : m.le m3 := Ms.le_trans (Ms.le_or_left _ _) q2
          have hle2 : m2.le m3 := Ms.le_trans (Ms.le_or_right _ _) q2
          have hsi := fromHead hle1 hx1 hst1 hoB1 hoH1 hd1 ht1 (hp.wide (fun n => (hle2 n).1))
          obtain ⟨m4, r1, r2⟩ := Px.leave (β' := β2) (σ' := σ2) (a' := a2) (w' := w2) hs wf hws hk h2
          rw [q1] at r1; cases r1
          obtain ⟨S, σ3, t1, t2, t3, t4⟩ := r2 hsi
          exact hQ .ret S β2 σ3 a2 w2 t1 m3 q1 t2 t3 t4
        | ext id =>
          obtain ⟨m3, q1, q2⟩ := dp (P := P) (x := x) (ex := .ext id) (fun h => by cases h) hm hm2
          have hle1 : m.le m3 := Ms.le_trans (Ms.le_or_left _ _) q2
          have hle2 : m2.le m3 := Ms.le_trans (Ms.le_or_right _ _) q2
          have hsi := fromHead hle1 hx1 hst1 hoB1 hoH1 hd1 ht1 (hp.wide (fun n => (hle2 n).1))
          obtain ⟨m4, r1, r2⟩ := Px.leave (β' := β2) (σ' := σ2) (a' := a2) (w' := w2) hs wf hws hk h2
          rw [q1] at r1; cases r1
          obtain ⟨S, σ3, t1, t2, t3, t4⟩ := r2 hsi
          exact hQ (.ext id) S β2 σ3 a2 w2 t1 m3 q1 t2 t3 t4
    ·
      exact toHead since0 (fun n e he => ⟨e, by rw [g3] at he; exact (IG.1 he).1, rfl⟩) (fun n e he => ⟨e, by rw [g4] at he; exact (II.1 he).1, rfl, rfl, rfl, rfl⟩) henc0 h1
  | _ =>
    intro _ light lv s k r β σ a w Q h hs wf hQ
    cases h
end
end Go.Px
end
section
namespace Go.Px
theorem WT {n m : Nat} (h : n ≤ m) : ∀ {l : List Oper}, Jn n l = true → Jn m l = true
 | [], _ => rfl
 | o :: l, hl => by
  simp only [Jn, Bool.and_eq_true] at hl ⊢
  refine ⟨?_, WT h hl.2⟩
  cases hd : o.dst with
  | none => rfl
  | some d =>
   rw [hd] at hl
   have := BL.1 hl.1
   exact BL.2 (by omega)
theorem M0 {n m : Nat} (h : n ≤ m) : ∀ {c : Code}, CJ n c = true → CJ m c = true := by
 intro c
 induction c with
 | region id ops draw => exact WT h
 | seq x y ihx ihy => intro hc; simp only [CJ, Bool.and_eq_true] at hc ⊢; exact ⟨ihx hc.1, ihy hc.2⟩
 | cond c x y ihx ihy => intro hc; simp only [CJ, Bool.and_eq_true] at hc ⊢; exact ⟨ihx hc.1, ihy hc.2⟩
 | block id x ih => exact ih
 | loop x ih => exact ih
 | _ => exact fun _ => rfl
section
variable {E : Env} {N : Nat} {P : Program} {cfg : Cfg} {n0 n0' : Nz} {nt : Nat} {β β' : Nat → Option Nat} {σ σ' : Nat → Option (Nat × Nat)} {s s' s2 : St0 E N} {a a' : Act} {w w' : World}
def VG (tmps : Array Value) : ResultVar → Sem Value
 | .tmp t => pure (tmps.getD t undef)
 | .cell a t => do loadVar t (← asAddr (tmps.getD a undef))
theorem aw (hs : Sim P n0 nt β σ s a w) {n : Nat} {v : AV (std E N)} (h : s.getT n = some ⟨[], v⟩) : RelAV P n0 β σ s w v (a.tmps.getD n undef) := by
 rcases hs.T n _ h with ⟨_, h1⟩ | ⟨h1, _⟩
 ·exact h1
 ·exact (h1 (fun n b hm => by simp at hm)).elim
theorem fZ (hs : Sim P n0 nt β σ s a w) {rv : ResultVar} {v : Val (std E N)} (h : ce P s rv = some v) : (∃ z, (VG a.tmps rv).run P w = .ok z w ∧ RelVal P n0 β σ s w v z) ∧ ∀ n, (Jp s n ∧ ∀ k tv, s.getT k = some tv → n ∉ tv.v.names) → n ∉ AB v.cs := by
 unfold ce at h
 split at h
 ·rename_i t
  split at h
  ·rename_i y hy
   cases h
   exact ⟨⟨_, rfl, aw hs hy⟩, fun n hf => hf.2 t _ hy⟩
  ·cases h
 ·rename_i t T
  split at h
  ·rename_i b off hb
   split at h
   ·rename_i e he
    split at h
    ·rename_i cs hcs
     split at h
     ·rename_i hag
      cases h
      have h1 : RelVal P n0 β σ s w (⟨false, [.ptr b off]⟩ : Val (std E N)) (a.tmps.getD t undef) := aw hs hb
      obtain ⟨h2, h3⟩ := h1
      have h3 : (a.tmps.getD t undef).oneCell' = true := h3
      rw [BE h3] at h2
      have hp : Jl β s b off (a.tmps.getD t undef) := h2.1
      obtain ⟨blk, cells, el, hv, hβ, hheap, hrel⟩ := Um hs.M he hp
      obtain ⟨e1, e2⟩ := DC hcs
      have hrr := RelCs.take (P.cellsOf T) (RelCs.drop off hrel)
      rw [← e1] at hrr
      obtain ⟨x, hx, hrx⟩ := Og hrr hag ((RelCs.length hrr).symm.trans e2) (fun j x hj => Mk hheap off _ j x hj)
      refine ⟨⟨x, ?_, hrx⟩, fun n hf hm => (hf.1.1 b e he).2 (DZ hcs hm)⟩
      simp only [VG, hv, Sem.run_bind]
      simp [asAddr, hx]
     ·cases h
    ·cases h
   ·cases h
  ·cases h
theorem SP (hs : Sim P n0 nt β σ s a w) : ∀ {rv : List ResultVar} {vs : List (Val (std E N))}, Ku P s rv = some vs → (∃ zs, (rv.mapM (VG a.tmps)).run P w = .ok zs w ∧ RelVals P n0 β σ s w vs zs) ∧ ∀ n, (Jp s n ∧ ∀ k tv, s.getT k = some tv → n ∉ tv.v.names) → n ∉ BO vs
 | [], vs, h => by
  simp only [Ku] at h; cases h
  exact ⟨⟨[], by simp [List.mapM_nil], trivial⟩, fun n _ => by simp [BO]⟩
 | r :: rv, vs, h => by
  simp only [Ku] at h
  split at h
  ·rename_i v l hv hl
   cases h
   obtain ⟨⟨z, h1, h2⟩, h3⟩ := fZ hs hv
   obtain ⟨⟨zs, h4, h5⟩, h6⟩ := SP hs hl
   refine ⟨⟨z :: zs, ?_, h2, h5⟩, fun n hf hm => ?_⟩
   ·simp [List.mapM_cons, Sem.run_bind, h1, h4]
   ·simp only [BO, List.mem_append] at hm
    exact hm.elim (h3 n hf) (h6 n hf)
  ·cases h
def YZ : List Value → Value
 | [x] => x
 | zs => .tuple zs.toArray
theorem Sm (hs : Sim P n0 nt β σ s a w) {fn : Func} {vs : List (Val (std E N))} (h : Ku P s fn.results.toList = some vs) : ∃ z zs, (results fn a.tmps).run P w = .ok z w ∧ RelVals P n0 β σ s w vs zs ∧ z = YZ zs := by
 obtain ⟨⟨zs, h1, h2⟩, _⟩ := SP hs h
 have : (results fn a.tmps).run P w = .ok (if h : zs.toArray.size = 1 then zs.toArray[0] else .tuple zs.toArray) w := by
  have e : results fn a.tmps = (do let vs ← fn.results.mapM (VG a.tmps); pure (if h : vs.size = 1 then vs[0] else .tuple vs)) := by
   unfold results
   congr 1
  rw [e, Array.mapM_eq_mapM_toList, map_eq_pure_bind]
  simp only [Sem.run_bind, h1, Result.andThen_ok, Sem.run_pure]
 refine ⟨_, zs, this, h2, ?_⟩
 match zs with
 | [] => simp [YZ]
 | [x] => simp [YZ]
 | x :: y :: r => simp [YZ]
theorem W4 {vs : List (Val (std E N))} {zs : List Value} {z : Value} (h : RelVals P n0 β σ s w vs zs) (hz : z = YZ zs) : RelAV P n0 β σ s w (Ie vs) z := by
 subst hz
 match vs, zs, h with
 | [], [], h => exact ⟨#[], rfl, trivial⟩
 | [v], [x], h => exact h.1
 | v :: v2 :: vs, x :: y :: zs, h => exact ⟨_, rfl, h⟩
 | [_], x :: y :: zs, h => exact h.2.elim
 | _ :: _ :: _, [_], h => exact h.2.elim
theorem V8 {vs : List (Val (std E N))} {n : Nat} (h : n ∉ BO vs) : n ∉ (Ie vs).names := by
 match vs, h with
 | [], h => exact h
 | [v], h => intro hm; exact h (by simp only [BO, List.append_nil]; exact hm)
 | v :: v2 :: vs, h => exact h
theorem M4 : ∀ {args : List (AV (std E N))} {i : Nat} {t : TM (TV (std E N))} {n : Nat} {tv : TV (std E N)}, CQ (Bc i args t) n = some tv → CQ t n = some tv ∨ (i ≤ n ∧ ∃ v, args[n - i]? = some v ∧ tv = ⟨[], v⟩)
 | [], i, t, n, tv, h => .inl h
 | v :: args, i, t, n, tv, h => by
  simp only [Bc] at h
  rcases M4 h with h | ⟨h1, u, h2, h3⟩
  ·rw [DA] at h
   split at h
   ·rename_i hn
    cases h
    exact .inr ⟨by omega, v, by rw [hn.1]; simp, rfl⟩
   ·exact .inl h
  ·refine .inr ⟨by omega, u, ?_, h3⟩
   rw [show n - i = (n - (i + 1)) + 1 by omega]; simpa using h2
theorem RelArgs.len : ∀ {xs : List (AV (std E N))} {vs : List Value}, RelArgs P n0 β σ s w xs vs → xs.length = vs.length
 | [], [], _ => rfl
 | _ :: _, _ :: _, h => by simp [RelArgs.len h.2]
 | [], _ :: _, h => h.elim
 | _ :: _, [], h => h.elim
theorem RelArgs.get : ∀ {xs : List (AV (std E N))} {vs : List Value}, RelArgs P n0 β σ s w xs vs → ∀ {i : Nat} {x : AV (std E N)}, xs[i]? = some x → ∃ v, vs[i]? = some v ∧ RelAV P n0 β σ s w x v
 | [], [], _, i, x, h => by simp at h
 | y :: xs, v :: vs, h, i, x, hx => by
  cases i with
  | zero => simp at hx; subst hx; exact ⟨v, rfl, h.1⟩
  | succ i => obtain ⟨u, h1, h2⟩ := RelArgs.get h.2 (i := i) (by simpa using hx); exact ⟨u, by simpa using h1, h2⟩
 | [], _ :: _, h, _, _, _ => h.elim
 | _ :: _, [], h, _, _, _ => h.elim
def EK (nt : Nat) (vals : List Value) : Act := { tmps := vals.toArray ++ Array.replicate (nt - vals.toArray.size) undef, defers := [] }
theorem UQ {nt : Nat} {vals : List Value} : nt ≤ (EK nt vals).tmps.size := by
 simp [EK]; omega
theorem gf (hn0 : n0.n ≤ w.heap.size) (m : Mem P n0 β σ s w) {args : List (AV (std E N))} {vals : List Value} (hr : RelArgs P n0 β σ s w args vals) {nt : Nat} :
    Sim P n0 (EK nt vals).tmps.size β σ { s with tm := Bc 0 args .e } (EK nt vals) w := by
  have sub : Sub s ({ s with tm := Bc 0 args .e } : St0 E N) := Sub.of_same (fun _ => rfl) (fun _ => rfl)
  refine ⟨hn0, rfl, fun n tv hn => ?_, sub.mem m⟩
  have hn : CQ (Bc 0 args .e) n = some tv := hn
  rcases M4 hn with h | ⟨_, v, h1, h2⟩
  · rw [Rf] at h; cases h
  · subst h2
    rw [Nat.sub_zero] at h1
    obtain ⟨z, h3, h4⟩ := hr.get h1
    refine .inl ⟨fun n b hm => by simp at hm, ?_⟩
    have : (EK nt vals).tmps.getD n undef = z := by
      obtain ⟨hlt, hz⟩ := List.getElem?_eq_some_iff.1 h3
      simp only [EK, Array.getD_eq_getD_getElem?]
      rw [Array.getElem?_append_left (by simpa using hlt)]
      simp [h3]
    rw [this]
    exact (sub.ext P (fun _ => False) β σ w).relAV (fun _ _ h => h) h4
theorem wf0 (hf : ∀ n, s.st ≤ n → Jp s n) {args : List (AV (std E N))} (ha : ∀ x ∈ args, ∀ n ∈ x.names, n < s.st) : WF ({ s with tm := Bc 0 args .e } : St0 E N) := by
 have get : ∀ (k : Nat) (tv : TV (std E N)), ({ s with tm := Bc 0 args .e } : St0 E N).getT k = some tv → ∃ v ∈ args, tv = ⟨[], v⟩ := fun k tv hk => by
  have hk : CQ (Bc 0 args .e) k = some tv := hk
  rcases M4 hk with h | ⟨_, v, h1, h2⟩
  ·rw [Rf] at h; cases h
  ·exact ⟨v, List.mem_of_getElem? h1, h2⟩
 refine ⟨fun n hn => ⟨hf n hn, fun k tv hk hm => ?_⟩, fun n tv hn => ?_⟩
 ·obtain ⟨v, h1, h2⟩ := get k tv hk
  subst h2
  have := ha v h1 n hm
  have hn : s.st ≤ n := hn
  omega
 ·obtain ⟨v, h1, h2⟩ := get n tv hn
  rw [h2]
theorem RelCs.app : ∀ {xs ys : List (AC0 E N)} {us vs : List Value}, RelCs P n0 β σ s w xs us → RelCs P n0 β σ s w ys vs → RelCs P n0 β σ s w (xs ++ ys) (us ++ vs)
 | [], _, [], _, _, h => h
 | x :: xs, _, u :: us, _, h, h' => ⟨h.1, RelCs.app h.2 h'⟩
 | [], _, _ :: _, _, h, _ => h.elim
 | _ :: _, _, [], _, h, _ => h.elim
theorem RelVals.flat : ∀ {vs : List (Val (std E N))} {zs : List Value}, RelVals P n0 β σ s w vs zs → RelCs P n0 β σ s w ((vs.map (·.cs)).flatten) ((zs.map fun z => z.cells.toList).flatten)
 | [], [], _ => trivial
 | v :: vs, z :: zs, h => RelCs.app h.1.1 (RelVals.flat h.2)
 | [], _ :: _, h => h.elim
 | _ :: _, [], h => h.elim
theorem U7 : ∀ {ts : List TypeId} {cs : List (AC0 E N)}, AS P ts cs = true → cs.length = ts.length
 | [], [], _ => rfl
 | t :: ts, c :: cs, h => by
  simp only [AS] at h
  split at h
  ·simp [U7 h]
  ·cases h
 | [], _ :: _, h => by simp [AS] at h
 | _ :: _, [], h => by simp [AS] at h
theorem P0 {S : St0 E N} {β2 : Nat → Option Nat} {σ2 : Nat → Option (Nat × Nat)} : ∀ {ts : List TypeId} {vs : List (Val (std E N))} {zs : List Value} {xs : List (AC0 E N)} {vs' : List (Val (std E N))}, Lr P ts vs = true → RelVals P n0 β σ s w vs zs →
    RelCs P n0 β2 σ2 S w xs ((zs.map fun z => z.cells.toList).flatten) → Gg P ts xs = some vs' → RelVals P n0 β2 σ2 S w vs' zs ∧ ∀ n ∈ BO vs', n ∈ AB xs
  | [], [], [], xs, vs', _, _, _, h => by
    simp only [Gg] at h; cases h
    exact ⟨trivial, fun n hn => by simp [BO] at hn⟩
  | t :: ts, v :: vs, z :: zs, xs, vs', hr, hv, hx, h => by
    simp only [Lr, Bool.and_eq_true] at hr
    simp only [Gg] at h
    cases hl : AK P t with
    | none => rw [hl] at h; cases h
    | some l =>
      rw [hl] at h hr
      simp only [Bool.and_eq_true, beq_iff_eq] at h hr
      split at h
      · cases h
      rename_i r hrest
      cases h
      have hlen : z.cells.toList.length = l.length := by rw [← RelCs.length hv.1.1]; exact U7 hr.1.2
      have hx' : RelCs P n0 β2 σ2 S w xs (z.cells.toList ++ (zs.map fun z => z.cells.toList).flatten) := hx
      have h1 := RelCs.take l.length hx'
      have h2 := RelCs.drop l.length hx'
      rw [← hlen, List.take_left] at h1
      rw [← hlen, List.drop_left] at h2
      rw [hlen] at h1 h2
      obtain ⟨h3, h4⟩ := P0 hr.2 hv.2 h2 hrest
      refine ⟨⟨⟨h1, ?_⟩, h3⟩, fun n hn => ?_⟩
      · have := hv.1.2
        rw [hr.1.1] at this
        exact this
      · simp only [BO, List.mem_append] at hn
        rcases hn with hn | hn
        · obtain ⟨c, hc, hm⟩ := A0.1 hn
          exact A0.2 ⟨c, List.mem_of_mem_take hc, hm⟩
        · obtain ⟨c, hc, hm⟩ := A0.1 (h4 n hn)
          exact A0.2 ⟨c, List.mem_of_mem_drop hc, hm⟩
  | [], _ :: _, _, _, _, hr, _, _, _ => by simp [Lr] at hr
  | _ :: _, [], _, _, _, hr, _, _, _ => by simp [Lr] at hr
  | _, [], _ :: _, _, _, _, hv, _, _ => hv.elim
  | _, _ :: _, [], _, _, _, hv, _, _ => hv.elim
theorem WQ : ∀ {sl : List Slot} (cv : List PV) (j q : Nat) (u : St0 E N) (t : TM (TV (std E N))), (∀ x ∈ sl, ∃ b c, x = Slot.b b c) → BJ (O := std E N) cv j q sl { u with tm := t } = { BJ (O := std E N) cv j q sl u with tm := t }
 | [], cv, j, q, u, t, _ => rfl
 | x :: sl, cv, j, q, u, t, h => by
  obtain ⟨b, c, rfl⟩ := h x List.mem_cons_self
  rw [Si, Si]
  exact WQ cv _ _ { u with bx := O6 u.bx b (some { cs := (AH E N cv j q c).1, dirty := true }), hp := (AH E N cv j q c).2 ++ u.hp } t (fun y hy => h y (List.mem_cons_of_mem _ hy))
theorem gX {R : Run E N} (hR : cl P R) : aJ P (Yz (O := std E N) P cfg R) := by
  intro f args s k r h n0 β σ w vals hn0 m hf ha hr
  unfold Yz at h
  cases hfn : P.funcs[f]? with
  | none => rw [hfn] at h; cases h
  | some fn =>
    rw [hfn] at h
    simp only at h
    cases hb : fn.body with
    | none => rw [hb] at h; cases h
    | some body =>
      rw [hb] at h
      simp only at h
      split at h
      · cases h
      rename_i htm
      have htm' := M0 (UQ (nt := fn.ntmps) (vals := vals)) htm
      refine calls_of_wp hfn hb ?_
      have hs1 := gf (nt := fn.ntmps) hn0 m hr
      have wf1 := wf0 hf ha
      have subT : ∀ (u : St0 E N) (t : TM (TV (std E N))), Sub u ({ u with tm := t } : St0 E N) := fun u t => Sub.of_same (fun _ => rfl) (fun _ => rfl)
      have subs1 : Sub s ({ s with tm := Bc 0 args .e } : St0 E N) := subT _ _
      split at h
      · refine hR n0 _ body htm' _ _ _ _ r β σ (EK fn.ntmps vals) w _ h hs1 wf1 (fun ex s' β' σ' a' w' hk mx hmx hp wf' hle => ?_)
        split at hk
        case h_2 => cases hk
        rename_i vs hex hvs
        obtain ⟨z, zs, h1, h2, h3⟩ := Sm hp.sim hvs
        obtain ⟨_, h4⟩ := SP hp.sim hvs
        have sub2 : Sub s' ({ s' with tm := s.tm } : St0 E N) := subT _ _
        have hfin : ∃ (av : AV (std E N)) (s'' : St0 E N) (β'' : Nat → Option Nat) (σ'' : Nat → Option (Nat × Nat)), k av s'' = some r ∧ s''.tm = s.tm ∧ s.st ≤ s''.st ∧ Mem P n0 β'' σ'' s'' w' ∧ Ext P (fun n => s.st ≤ n) β σ s w β'' σ'' s'' w' ∧
          (∀ n e, s''.getB n = some e → e.dirty = false → s.getB n = some e) ∧ (∀ n e, s''.getH n = some e → e.dirty = false → s.getH n = some e) ∧
          RelAV P n0 β'' σ'' s'' w' av z ∧ ∀ n, s''.st ≤ n → Jp s'' n ∧ n ∉ av.names := by
          refine ⟨Ie vs, _, β', σ', hk, rfl, hle, sub2.mem hp.sim.M, (((subs1.ext P (fun _ => False) β σ w).trans hp.ext).trans (sub2.ext P (fun _ => False) β' σ' w')).weaken (fun n h => ?_), hp.cleanB, hp.cleanH, (sub2.ext P (fun _ => False) β' σ' w').relAV (fun _ _ h => h) (W4 h2 h3), fun n hn => ?_⟩
          · rcases h with (h | h) | h
            · exact h.elim
            · exact h
            · exact h.elim
          · have := wf'.fresh n hn
            exact ⟨this.1, V8 (h4 n this)⟩
        have hdef : a'.defers = [] := hp.defers
        cases ex with
        | nrm => exact ⟨hdef, z, h1, hfin⟩
        | ret => exact ⟨hdef, z, h1, hfin⟩
        | ext id => simp [Qr] at hex
      · split at h
        case h_2 => cases h
        rename_i sl rs hsl hrs
        obtain ⟨c0, h1, h2⟩ := Option.bind_eq_some_iff.1 h
        split at h2
        · cases h2
        rename_i vs' hvs'
        have hvs' : Gg P fn.resultTypes.toList (AH E N c0 0 s.st rs).1 = some vs' := hvs'
        generalize hm : ac (an P body) = mm at *
        unfold ac at hm
        have hmm : ∀ ex mx, Qr ex = false → (an P body).at ex = some mx → mx.le mm := fun ex mx he hx => by
          cases ex with
          | nrm =>
            obtain ⟨m2, q1, q2⟩ := Wide.orL (p := (an P body).ret) ⟨mx, hx, Ms.le_refl _⟩
            have q1 : Sh (an P body).nrm (an P body).ret = some m2 := q1
            rw [q1] at hm; subst hm; exact q2
          | ret =>
            obtain ⟨m2, q1, q2⟩ := Wide.orR (o := (an P body).nrm) ⟨mx, hx, Ms.le_refl _⟩
            have q1 : Sh (an P body).nrm (an P body).ret = some m2 := q1
            rw [q1] at hm; subst hm; exact q2
          | ext id => simp [Qr] at he
        refine hR n0 _ body htm' _ _ _ _ c0 β σ (EK fn.ntmps vals) w _ h1 hs1.cleaned wf1.cleaned (fun ex s' β' σ' a' w' hk mx hmx hp wf' hle => ?_)
        split at hk
        · cases hk
        · cases hk
        rename_i vs hex hvs
        split at hk
        case h_2 => cases hk
        case h_3 => cases hk
        rename_i ls used hck hchk henc1
        split at hk
        case h_2 => cases hk
        rename_i more henc2
        simp only [Bool.and_eq_true] at hck
        obtain ⟨hres, hcB⟩ := hck
        have hc0 : c0 = (ls ++ more).map Leaf.pv := (Option.some.inj hk).symm
        have hsi := Post.since (s := { s with tm := Bc 0 args .e }) (hp.wide (fun n => (hmm ex mx hex hmx n).1))
        obtain ⟨z, zs, r1, r2, r3⟩ := Sm hp.sim hvs
        obtain ⟨hslm, hslb⟩ := IV hsl
        have hj := gY (s := s') (a := a') (w := w') (L := s.st) (base := { s with tm := .e, bx := LY s (CG ({ s with tm := Bc 0 args .e } : St0 E N) mm), hp := NA s (PB ({ s with tm := Bc 0 args .e } : St0 E N) mm) }) hp.sim
          (fun n tv hn => by
            have hn : CQ (.e : TM (TV (std E N))) n = some tv := hn
            rw [Rf] at hn; cases hn)
          (fun n e he => by
            have he' : AE (LY s _) n = some e := he
            obtain ⟨g1, g2⟩ := IG.1 he'
            obtain ⟨e', g3, g4⟩ := Sp hcB he'
            exact ⟨Nat.lt_of_not_le (fun hle => ((hf n hle).1 n e g1).1 rfl), ⟨e', g3, hsi.B n e e' g1 g2 g3 g4⟩, fun k hk => Nat.lt_of_not_le (fun hle => ((hf k hle).1 n e g1).2 hk)⟩)
          (fun n e he => by
            have he' : AE (NA s _) n = some e := he
            obtain ⟨g1, g2⟩ := II.1 he'
            obtain ⟨e', g3, g4⟩ := SL hchk he'
            exact ⟨Nat.lt_of_not_le (fun hle => (hf n hle).2 n e g1 rfl), e', g3, hsi.H n e e' g1 g2 g3 g4⟩)
          (rs := rs) (cs := (vs.map (·.cs)).flatten) r2.flat (sl := sl) (fun b c hm => by
            obtain ⟨_, e, he⟩ := hslm b c hm
            exact Nat.lt_of_not_le (fun hle => ((hf b hle).1 b e he).1 rfl))
          henc1 henc2 (cv := c0) (j := 0) (by rw [hc0]; exact NL (pre := []))
        obtain ⟨σ2, S, hS, j1, j2, j3⟩ := hj
        obtain ⟨s1, s2⟩ := P0 hres r2 j1 hvs'
        have hSt : BJ (O := std E N) c0 rs.length (s.st + (AH E N c0 0 s.st rs).2.length) sl { s with bx := LY s (CG ({ s with tm := Bc 0 args .e } : St0 E N) mm), hp := (AH E N c0 0 s.st rs).2 ++ NA s (PB ({ s with tm := Bc 0 args .e } : St0 E N) mm) } = { S with tm := s.tm } := by
          rw [hS, Nat.zero_add]
          exact WQ c0 rs.length (s.st + (AH E N c0 0 s.st rs).2.length) { s with tm := .e, bx := LY s (CG ({ s with tm := Bc 0 args .e } : St0 E N) mm), hp := (AH E N c0 0 s.st rs).2 ++ NA s (PB ({ s with tm := Bc 0 args .e } : St0 E N) mm) } s.tm hslb
        have hk2 : k (Ie vs') { S with tm := s.tm } = some r := by rw [← hSt]; exact h2
        have sub2 : Sub S ({ S with tm := s.tm } : St0 E N) := subT _ _
        have hfin : ∃ (av : AV (std E N)) (s'' : St0 E N) (β'' : Nat → Option Nat) (σ'' : Nat → Option (Nat × Nat)), k av s'' = some r ∧ s''.tm = s.tm ∧ s.st ≤ s''.st ∧ Mem P n0 β'' σ'' s'' w' ∧ Ext P (fun n => s.st ≤ n) β σ s w β'' σ'' s'' w' ∧
          (∀ n e, s''.getB n = some e → e.dirty = false → s.getB n = some e) ∧ (∀ n e, s''.getH n = some e → e.dirty = false → s.getH n = some e) ∧
          RelAV P n0 β'' σ'' s'' w' av z ∧ ∀ n, s''.st ≤ n → Jp s'' n ∧ n ∉ av.names := by
          refine ⟨Ie vs', _, β', σ2, hk2, rfl, j3.st, sub2.mem j3.sim.M, ((((subs1.ext P (fun _ => False) β σ w).trans hsi.ext).trans j3.ext).trans (sub2.ext P (fun _ => False) β' σ2 w')).weaken (fun n h => ?_), fun n e he hd => ?_, fun n e he hd => ?_, (sub2.ext P (fun _ => False) β' σ2 w').relAV (fun _ _ h => h) (W4 s1 r3), fun n hn => ?_⟩
          · rcases h with ((h | h) | h) | h
            · exact h.elim
            · exact h
            · exact h
            · exact h.elim
          · have he' : AE (LY s _) n = some e := j3.cleanB n e he hd
            exact (IG.1 he').1
          · have he' : AE (NA s _) n = some e := j3.cleanH n e he hd
            exact (II.1 he').1
          · exact ⟨(j3.wf.fresh n hn).1, V8 (fun hm => by
              have hn : S.st ≤ n := hn
              have := j2 n (s2 n hm); omega)⟩
        have hdef : a'.defers = [] := hp.defers
        cases ex with
        | nrm => exact ⟨hdef, z, r1, hfin⟩
        | ret => exact ⟨hdef, z, r1, hfin⟩
        | ext id => simp [Qr] at hex
theorem aH (hmix : P.follows .mixedOrders = true) (hΓ : ∀ ci ∈ cfg.gam, BT P E N ci ∧ BT P E N { ci with own := false }) : ∀ n, cl P (XL (O := std E N) P cfg n : Run E N)
 | 0 => fun n0 nt c _ light lv s k r β σ a w Q h => by cases h
 | n + 1 => ki hmix _ (gX (aH hmix hΓ n)) hΓ
end
end Go.Px
end
section
namespace Go.Px
section
variable {E : Env} {N : Nat} {P : Program} {cfg : Cfg} {n0 n0' : Nz} {nt : Nat} {β β' : Nat → Option Nat} {σ σ' : Nat → Option (Nat × Nat)} {s s' s2 : St0 E N} {a a' : Act} {w w' : World}
theorem GH {give : Bool} : ∀ {ts : List TypeId} {q : Nat} {ls rest : List Ab} {cs : List (AC0 E N)} {h : List (Nat × HEnt (std E N))}, Ac (O := std E N) P give q ts ls = some (cs, h, rest) → Row q h ∧ ∀ n ∈ AB cs, q ≤ n ∧ n < q + h.length
 | [], q, ls, rest, cs, h, he => by
  simp only [Ac] at he; cases he
  exact ⟨trivial, fun n hn => by simp [AB] at hn⟩
 | t :: ts, q, [], rest, cs, h, he => by simp only [Ac] at he; cases he
 | t :: ts, q, l :: ls, rest, cs, h, he => by
  simp only [Ac] at he
  split at he
  ·obtain ⟨⟨cs1, h1, r1⟩, e1, e2⟩ := Option.map_eq_some_iff.1 he
   cases e2
   obtain ⟨a1, a2⟩ := GH e1
   exact ⟨a1, fun n hn => a2 n (by simpa [AB, AC.names] using hn)⟩
  ·obtain ⟨⟨cs1, h1, r1⟩, e1, e2⟩ := Option.map_eq_some_iff.1 he
   cases e2
   obtain ⟨a1, a2⟩ := GH e1
   exact ⟨a1, fun n hn => a2 n (by simpa [AB, AC.names] using hn)⟩
  ·obtain ⟨⟨cs1, h1, r1⟩, e1, e2⟩ := Option.map_eq_some_iff.1 he
   cases e2
   obtain ⟨a1, a2⟩ := GH e1
   exact ⟨a1, fun n hn => a2 n (by simpa [AB, AC.names] using hn)⟩
  ·cases give with
   | false =>
    obtain ⟨⟨cs1, h1, r1⟩, e1, e2⟩ := Option.map_eq_some_iff.1 he
    cases e2
    obtain ⟨a1, a2⟩ := GH e1
    exact ⟨a1, fun n hn => a2 n (by simpa [AB, AC.names] using hn)⟩
   | true =>
    obtain ⟨⟨cs1, h1, r1⟩, e1, e2⟩ := Option.map_eq_some_iff.1 he
    cases e2
    obtain ⟨a1, a2⟩ := GH e1
    refine ⟨⟨rfl, a1⟩, fun n hn => ?_⟩
    simp only [AB, AC.names, List.cons_append, List.nil_append, List.mem_cons] at hn
    simp only [List.length_cons]
    rcases hn with rfl | hn
    ·omega
    ·have := a2 n hn; omega
  ·cases he
theorem Ra : ∀ {ts : List TypeId} {gv : List Bool} {q : Nat} {fns : List Nat} {ls : List Ab} {vs : List (AV (std E N))} {hs : List (Nat × HEnt (std E N))}, As (O := std E N) P gv q ts fns ls = some (vs, hs) → Row q hs ∧ ∀ v ∈ vs, ∀ n ∈ v.names, q ≤ n ∧ n < q + hs.length
 | [], gv, q, fns, ls, vs, hs, h => by
  unfold As at h
  split at h
  ·cases h; exact ⟨trivial, fun v hv => by simp at hv⟩
  ·rename_i hx; cases hx
  ·cases h
 | t :: ts, gv, q, fns, ls, vs, hs, h => by
  unfold As at h
  split at h
  ·split at h
   ·obtain ⟨⟨r, h1⟩, e1, e2⟩ := Option.map_eq_some_iff.1 h
    cases e2
    obtain ⟨a1, a2⟩ := Ra e1
    refine ⟨a1, fun v hv n hn => ?_⟩
    rcases List.mem_cons.1 hv with rfl | hv
    ·simp [AV.names, one, AB, AC.names] at hn
    ·exact a2 v hv n hn
   ·cases h
  ·split at h
   ·cases h
   ·rename_i l hl
    split at h
    ·cases h
    ·rename_i cs h1 ls1 hc
     obtain ⟨⟨r, h2⟩, e1, e2⟩ := Option.map_eq_some_iff.1 h
     cases e2
     obtain ⟨a1, a2⟩ := GH hc
     obtain ⟨b1, b2⟩ := Ra e1
     refine ⟨a1.append b1, fun v hv n hn => ?_⟩
     rw [List.length_append]
     rcases List.mem_cons.1 hv with rfl | hv
     ·have := a2 n hn; omega
     ·have := b2 v hv n hn; omega
def Bu (P : Program) (own nw : Bool) (t : TypeId) : SlotC := match AG P t with
 | .int k => .int k
 | .bool => .bool
 | .str => .str
 | .sl e => match own with
  | true => .own e nw
  | false => .imm e nw
 | _ => .bool
theorem dk (m : Mem P n0 β σ s w) {own own' nw : Bool} (ho : own' = true → own = true) : ∀ {ts : List TypeId} {cs : List (AC0 E N)} {vals : List Value} {used usedE : List Nat} {ls : List Ab}, DX (O := std E N) s own nw used cs = .ok ls → AS P ts cs = true → RelCs P n0 β σ s w cs vals → (∀ n ∈ usedE, n ∈ used) →
    ∃ u, Ig (O := std E N) s [] usedE (ts.map (Bu P own' nw)) cs = .ok (ls, u)
  | [], [], vals, used, usedE, ls, h, _, _, _ => by
    simp only [DX] at h; cases h
    exact ⟨usedE, rfl⟩
  | t :: ts, c :: cs, v :: vals, used, usedE, ls, h, hk, hr, hu => by
    simp only [AS] at hk
    split at hk
    case h_2 => cases hk
    rename_i hk1
    have goOk : ∀ {l : Ab} {u : List Nat}, O5 l (DX (O := std E N) s own nw u cs) = .ok ls → ∃ ls2, DX (O := std E N) s own nw u cs = .ok ls2 ∧ ls = l :: ls2 := fun {l u} h => by
      cases hx : DX (O := std E N) s own nw u cs with
      | ok ls2 => rw [hx] at h; simp only [O5] at h; cases h; exact ⟨ls2, rfl, rfl⟩
      | error e => rw [hx] at h; simp only [O5] at h; cases h
    have fin : ∀ {l : Ab} {u uE : List Nat} {ls2 : List Ab}, KL (O := std E N) s [] usedE (Bu P own' nw t) c = .ok (l, uE) → DX (O := std E N) s own nw u cs = .ok ls2 → ls = l :: ls2 → (∀ n ∈ uE, n ∈ u) → ∃ u, Ig (O := std E N) s [] usedE ((t :: ts).map (Bu P own' nw)) (c :: cs) = .ok (ls, u) := fun {l u uE ls2} h1 h2 h3 h4 => by
      obtain ⟨u2, h5⟩ := dk m ho h2 hk hr.2 h4
      refine ⟨u2, ?_⟩
      simp only [List.map_cons, Ig, h1, h5, h3]
    cases c with
    | int k i =>
      simp only [DX] at h
      obtain ⟨ls2, h2, h3⟩ := goOk h
      cases hl : AG P t <;> rw [hl] at hk1 <;> simp [A7] at hk1
      refine fin (l := .int i) (uE := usedE) ?_ h2 h3 hu
      simp [Bu, hl, KL, hk1]
    | bool b =>
      simp only [DX] at h
      obtain ⟨ls2, h2, h3⟩ := goOk h
      cases hl : AG P t <;> rw [hl] at hk1 <;> simp [A7] at hk1
      refine fin (l := .bool b) (uE := usedE) ?_ h2 h3 hu
      simp [Bu, hl, KL]
    | str x =>
      simp only [DX] at h
      obtain ⟨ls2, h2, h3⟩ := goOk h
      cases hl : AG P t <;> rw [hl] at hk1 <;> simp [A7] at hk1
      refine fin (l := .str x) (uE := usedE) ?_ h2 h3 hu
      simp [Bu, hl, KL]
    | nil e =>
      simp only [DX] at h
      obtain ⟨ls2, h2, h3⟩ := goOk h
      cases hl : AG P t <;> rw [hl] at hk1 <;> simp [A7] at hk1
      subst hk1
      refine fin (l := .rows []) (uE := usedE) ?_ h2 h3 hu
      cases own' <;> simp [Bu, hl, KL]
    | imm e n l =>
      simp only [DX] at h
      split at h
      case h_2 => cases h
      rename_i hg
      obtain ⟨ls2, h2, h3⟩ := goOk h
      cases hl : AG P t <;> rw [hl] at hk1 <;> simp [A7] at hk1
      subst hk1
      have hown : own' = false := by
        cases own' with
        | false => rfl
        | true => have := ho rfl; rw [this] at hg; simp at hg
      subst hown
      refine fin (l := .rows l) (uE := usedE) ?_ h2 h3 hu
      have hg2 : (n || !nw) = true := by simp only [Bool.and_eq_true] at hg; exact hg.2
      simp [Bu, hl, KL, hg2]
    | own e id =>
      simp only [DX] at h
      cases hh : s.getH id with
      | none => rw [hh] at h; cases h
      | some en =>
        rw [hh] at h
        simp only at h
        split at h
        case h_2 => cases h
        rename_i hg
        obtain ⟨ls2, h2, h3⟩ := goOk h
        simp only [Bool.and_eq_true, Bool.not_eq_true'] at hg
        obtain ⟨⟨g1, g2⟩, g3⟩ := hg
        cases hl : AG P t <;> rw [hl] at hk1 <;> simp [A7] at hk1
        subst hk1
        have he := (hr.1.2 en hh).1
        have hm : Di id usedE = false := by
          cases hx : Di id usedE with
          | false => rfl
          | true => have := CT.2 (hu id (CT.1 hx)); rw [this] at g2; cases g2
        cases own' with
        | true =>
          have := ho rfl; subst this
          refine fin (l := .rows en.l) (uE := id :: usedE) ?_ h2 h3 (fun n hn => by
            rcases List.mem_cons.1 hn with rfl | hn
            · exact List.mem_cons_self
            · exact List.mem_cons_of_mem _ (hu n hn))
          have g1' : en.frozen = false := by simpa using g1
          simp [Bu, hl, KL, hh, he, g1', hm, Di, g3]
        | false =>
          refine fin (l := .rows en.l) (uE := match en.frozen with | true => usedE | false => id :: usedE) ?_ h2 h3 (fun n hn => by
            cases hz : en.frozen with
            | true => rw [hz] at hn; exact List.mem_cons_of_mem _ (hu n hn)
            | false =>
              rw [hz] at hn
              rcases List.mem_cons.1 hn with rfl | hn
              · exact List.mem_cons_self
              · exact List.mem_cons_of_mem _ (hu n hn))
          simp [Bu, hl, KL, hh, he, hm, Di, g3]
          cases en.frozen <;> rfl
    | _ => simp only [DX] at h; cases h
  | [], _ :: _, _, _, _, _, _, hk, _, _ => by simp [AS] at hk
  | _ :: _, [], _, _, _, _, _, hk, _, _ => by simp [AS] at hk
  | _, _ :: _, [], _, _, _, _, _, hr, _ => hr.elim
theorem P9 (cv : List PV) : ∀ (x y : List SlotC) (j q : Nat), AH E N cv j q (x ++ y) = ((AH E N cv j q x).1 ++ (AH E N cv (j + x.length) (q + (AH E N cv j q x).2.length) y).1, (AH E N cv j q x).2 ++ (AH E N cv (j + x.length) (q + (AH E N cv j q x).2.length) y).2)
 | [], y, j, q => rfl
 | c :: x, y, j, q => by
  have e : ∀ z, AH E N cv j q (c :: z) = ((BV E N cv j q c).1 :: (AH E N cv (j + 1) (q + (BV E N cv j q c).2.length) z).1, (BV E N cv j q c).2 ++ (AH E N cv (j + 1) (q + (BV E N cv j q c).2.length) z).2) := fun z => rfl
  rw [List.cons_append, e, e, P9 cv x y]
  simp only [List.cons_append, List.length_cons, List.length_append, List.append_assoc]
  rw [show j + 1 + x.length = j + (x.length + 1) by omega, Nat.add_assoc]
theorem WK {own nw : Bool} {cv : List PV} : ∀ {ts : List TypeId} {cs : List (AC0 E N)} {j q : Nat}, AS P ts cs = true → Ae (O := std E N) P own nw cv j q ts = some (AH E N cv j q (ts.map (Bu P own nw)))
 | [], [], j, q, _ => rfl
 | t :: ts, c :: cs, j, q, h => by
  simp only [AS] at h
  split at h
  case h_2 => cases h
  rename_i hk
  have ih := fun j q => WK (own := own) (nw := nw) (cv := cv) (j := j) (q := q) h
  cases hl : AG P t <;> rw [hl] at hk <;> (try (cases c <;> simp [A7] at hk; done))
  ·simp only [Ae, hl, ih]; simp [AH, Jz, Hg, Bu, hl]
  ·simp only [Ae, hl, ih]; simp [AH, Jz, Hg, Bu, hl]
  ·simp only [Ae, hl, ih]; simp [AH, Jz, Hg, Bu, hl]
  ·cases own with
   | true => simp only [Ae, hl, ih]; simp [AH, Jz, Hg, Bu, hl]
   | false => simp only [Ae, hl, ih]; simp [AH, Jz, Hg, Bu, hl]
 | [], _ :: _, _, _, h => by simp [AS] at h
 | _ :: _, [], _, _, h => by simp [AS] at h
theorem ZT {cv : List PV} : ∀ {x : List SlotC} {j q : Nat}, (AH E N cv j q x).1.length = x.length
 | [], j, q => rfl
 | c :: x, j, q => by
  have e : AH E N cv j q (c :: x) = ((BV E N cv j q c).1 :: (AH E N cv (j + 1) (q + (BV E N cv j q c).2.length) x).1, (BV E N cv j q c).2 ++ (AH E N cv (j + 1) (q + (BV E N cv j q c).2.length) x).2) := rfl
  rw [e]; simp [ZT (x := x)]
theorem WW {own nw : Bool} {cv : List PV} : ∀ {ts : List TypeId} {vs : List (Val (std E N))} {j q : Nat}, Lr P ts vs = true → ∃ (l : List TypeId) (vs' : List (Val (std E N))), Ic P ts = some l ∧ AS P l ((vs.map (·.cs)).flatten) = true ∧
    A3 (O := std E N) P own nw cv j q ts = some (vs', (AH E N cv j q (l.map (Bu P own nw))).2) ∧ Gg P ts (AH E N cv j q (l.map (Bu P own nw))).1 = some vs'
  | [], [], j, q, _ => ⟨[], [], rfl, rfl, rfl, rfl⟩
  | t :: ts, v :: vs, j, q, h => by
    simp only [Lr, Bool.and_eq_true] at h
    cases hl : AK P t with
    | none => rw [hl] at h; simp at h
    | some l =>
      rw [hl] at h
      simp only [Bool.and_eq_true, beq_iff_eq] at h
      obtain ⟨l2, vs', h1, h2, h3, h4⟩ := WW (own := own) (nw := nw) (cv := cv) (j := j + l.length) (q := q + (AH E N cv j q (l.map (Bu P own nw))).2.length) h.2
      have hb := WK (own := own) (nw := nw) (cv := cv) (j := j) (q := q) h.1.2
      refine ⟨l ++ l2, { agg := AQ P t, cs := (AH E N cv j q (l.map (Bu P own nw))).1 } :: vs', by simp [Ic, hl, h1], ?_, ?_, ?_⟩
      · have : ∀ {a b : List TypeId} {x y : List (AC0 E N)}, AS P a x = true → AS P b y = true → AS P (a ++ b) (x ++ y) = true := fun {a b x y} hx hy => by
          induction a generalizing x with
          | nil => cases x with
            | nil => exact hy
            | cons _ _ => simp [AS] at hx
          | cons t a ih => cases x with
            | nil => simp [AS] at hx
            | cons c x =>
              simp only [AS] at hx
              split at hx
              · rename_i hk; simp only [List.cons_append, AS, hk]; exact ih hx
              · cases hx
        exact this h.1.2 h2
      · simp only [A3, hl]
        rw [hb, List.map_append, P9, List.length_map]
        simp only [h3]
      · simp only [Gg, hl]
        rw [List.map_append, P9, List.length_map]
        have hlen : (AH E N cv j q (l.map (Bu P own nw))).1.length = l.length := by rw [ZT, List.length_map]
        simp only
        rw [← hlen, List.drop_left, List.take_left, hlen, h4]
  | [], _ :: _, _, _, h => by simp [Lr] at h
  | _ :: _, [], _, _, h => by simp [Lr] at h
theorem ae {cv : List PV} {S S2 : St0 E N} (hH : ∀ n, S2.getH n = S.getH n) (hst : ∀ nw b, StB n0 β σ S nw b → StB n0 noB σ S2 nw b) : ∀ {x : List SlotC} {j q : Nat} {vals : List Value}, RelCs P n0 β σ S w (AH E N cv j q x).1 vals → RelCs P n0 noB σ S2 w (AH E N cv j q x).1 vals
 | [], j, q, [], h => trivial
 | [], j, q, _ :: _, h => h.elim
 | c :: x, j, q, [], h => h.elim
 | c :: x, j, q, v :: vals, h => by
  have e : AH E N cv j q (c :: x) = ((BV E N cv j q c).1 :: (AH E N cv (j + 1) (q + (BV E N cv j q c).2.length) x).1, (BV E N cv j q c).2 ++ (AH E N cv (j + 1) (q + (BV E N cv j q c).2.length) x).2) := rfl
  rw [e] at h ⊢
  refine ⟨?_, ae hH hst h.2⟩
  have h1 := h.1
  cases c with
  | int k => exact h1
  | bool => exact h1
  | str => exact h1
  | own e nw =>
   obtain ⟨h2, h3⟩ := h1
   exact ⟨h2, fun en hen => h3 en (by rw [← hH]; exact hen)⟩
  | imm e nw => obtain ⟨t, ht, hr⟩ := h1; exact ⟨t, ht, hr.st (hst nw)⟩
theorem bF {own own' nw : Bool} (ho : own' = true → own = true) {gives : List Bool} {f : FuncId} {fns : List Nat} {rs : List PV} {fn : Func} {hs : List (Nat × HEnt (std E N))} {ex : Ex} (hsim : Sim P n0 nt β' σ' s' a' w') (hdef : a'.defers = [])
    (x1 : Ext P (fun _ => True) noB σ (AP hs) w β' σ' s' w') (hk : Wn (O := std E N) P own nw fn ex s' = some rs) : bodyPost P fn (Ret (E := E) (N := N) P ⟨f, fns, own', nw, gives⟩ n0 σ (AP hs) w fn rs) (bK ex) a' w' := by
  unfold Wn at hk
  split at hk
  · cases hk
  · cases hk
  rename_i vs' hex hvs
  split at hk
  case h_2 => cases hk
  case h_3 => cases hk
  rename_i ls' hres hout
  have hrs : rs = ls'.map Leaf.pv := (Option.some.inj hk).symm
  obtain ⟨z, zs, r1, r2, r3⟩ := Sm hsim hvs
  have hfin : Ret (E := E) (N := N) P ⟨f, fns, own', nw, gives⟩ n0 σ (AP hs) w fn rs (.returned z) w' := by
    refine ⟨x1.os, x1.tape, x1.output, x1.size, fun b hb hm => x1.frame b hb hm, fun q => ?_⟩
    obtain ⟨l, vs2, b1, b2, b3, b4⟩ := WW (own := own') (nw := nw) (cv := rs) (j := 0) (q := q) hres
    obtain ⟨u, henc⟩ := dk hsim.M ho (usedE := []) hout b2 r2.flat (fun n hn => by simp at hn)
    have hj := gY (s := s') (a := a') (w := w') (L := q) (base := { tm := .e, bx := [], hp := [], st := q }) hsim
      (fun n tv hn => by
        have hn : CQ (.e : TM (TV (std E N))) n = some tv := hn
        rw [Rf] at hn; cases hn)
      (fun n e he => by cases he) (fun n e he => by cases he)
      (rs := l.map (Bu P own' nw)) r2.flat (sl := []) (fun b c hm => by simp at hm) henc (ls2 := []) rfl (cv := rs) (j := 0) (by rw [hrs, List.append_nil]; exact NL (pre := []))
    obtain ⟨σ2, S, hS, j1, j2, j3⟩ := hj
    have hSH : ∀ n, S.getH n = AE (AH E N rs 0 q (l.map (Bu P own' nw))).2 n := fun n => by
      rw [hS]
      show AE (_ ++ []) n = _
      rw [List.append_nil]
    have hSB : ∀ n, S.getB n = none := fun n => by rw [hS]; rfl
    generalize hD : (AH E N rs 0 q (l.map (Bu P own' nw))).2 = D at *
    have hH2 : ∀ n, (AP D).getH n = S.getH n := fun n => (hSH n).symm
    have inM : ∀ b, InM noB σ2 (AP D) b → InM β' σ2 S b := fun b hb => by
      rcases hb with ⟨n, e, h1, _⟩ | ⟨n, h, cap, h1, h2, h3⟩
      · cases h1
      · exact .inr ⟨n, h, cap, by rw [← hH2]; exact h1, h2, h3⟩
    have hst : ∀ nw b, StB n0 β' σ2 S nw b → StB n0 noB σ2 (AP D) nw b := fun nw b hb => ⟨fun hm => hb.1 (inM b hm), hb.2⟩
    refine ⟨σ2, vs2, D, b3, ⟨fun n e he => (by cases he), fun n h hh => ?_, fun b b' e e' blk he => (by cases he), fun n n' h h' blk cap cap' hh hh' => ?_, fun b e n h blk cap he => (by cases he)⟩, ?_, fun b hb => ?_⟩
    · rw [hH2] at hh
      exact (j3.sim.M.H n h hh).view rfl rfl rfl (fun _ _ _ ho => ho) (fun b hb => hst _ b hb)
    · rw [hH2] at hh hh'
      exact j3.sim.M.uH n n' h h' blk cap cap' hh hh'
    · have j1' := ae (S2 := AP D) hH2 hst j1
      exact W4 (P0 hres r2 j1' b4).1 r3
    · rcases j3.ext.mem b (inM b hb) with h | h
      · exact x1.mem b h
      · exact .inr (Nat.le_trans x1.size h)
  cases ex with
  | nrm => exact ⟨hdef, z, r1, hfin⟩
  | ret => exact ⟨hdef, z, r1, hfin⟩
  | ext id => simp [Qr] at hex
theorem cA (hmix : P.follows .mixedOrders = true) (hΓ : ∀ ci ∈ cfg.gam, BT P E N ci ∧ BT P E N { ci with own := false }) {own own' nw : Bool} (ho : own' = true → own = true) {gives : List Bool} {f : FuncId} {fns : List Nat} {ls rs : List PV}
    (h : XF (O := std E N) P cfg own nw gives f fns (ls.map PV.leaf) = some rs) {fn : Func} (hfn : P.funcs[f]? = some fn) {vs : List (AV (std E N))} {hs : List (Nat × HEnt (std E N))} (hv : As (O := std E N) P gives 1 fn.params.toList fns (ls.map PV.leaf) = some (vs, hs))
    (hn0 : n0.n = w.heap.size) (m : Mem P n0 noB σ (AP hs) w) {args : List Value} (hr : RelArgs P n0 noB σ (AP hs) w vs args) : Calls P f args.toArray w (Ret (E := E) (N := N) P ⟨f, fns, own', nw, gives⟩ n0 σ (AP hs) w fn rs) := by
  unfold XF at h
  rw [hfn] at h
  simp only at h
  split at h
  · rename_i body vs' hs' hb hv'
    rw [hv] at hv'
    cases hv'
    split at h
    · cases h
    rename_i htm
    obtain ⟨row, hnames⟩ := Ra hv
    let sx : St0 E N := { tm := .e, bx := [], hp := hs, st := 1 + hs.length }
    have subx : Sub (AP hs) sx := Sub.of_same (fun _ => rfl) (fun _ => rfl)
    have mx : Mem P n0 noB σ sx w := subx.mem m
    have hrx : RelArgs P n0 noB σ sx w vs args := (subx.ext P (fun _ => False) noB σ w).relArgs hr
    have hfx : ∀ n, sx.st ≤ n → Jp sx n := fun n hn => ⟨fun k e he => (by cases he), fun k e he => (by
      have := row.mem _ (row.get he)
      have hn : 1 + hs.length ≤ n := hn
      simp at this; omega)⟩
    refine calls_of_wp hfn hb ?_
    have hs1 := gf (s := sx) (nt := fn.ntmps) (Nat.le_of_eq hn0) mx hrx
    have wf1 := wf0 (s := sx) hfx (args := vs) (fun x hx n hn => (hnames x hx n hn).2)
    have htm' := M0 (UQ (nt := fn.ntmps) (vals := args)) htm
    have subs1 : Sub sx ({ sx with tm := Bc 0 vs .e } : St0 E N) := Sub.of_same (fun _ => rfl) (fun _ => rfl)
    refine aH hmix hΓ 6 n0 _ body htm' _ _ _ _ rs noB σ (EK fn.ntmps args) w _ h hs1 wf1 (fun ex s' β' σ' a' w' hk mm hmm hp wf' hle => ?_)
    have x1 : Ext P (fun _ => True) noB σ (AP hs) w β' σ' s' w' := (((subx.ext P (fun _ => False) noB σ w).trans (subs1.ext P (fun _ => False) noB σ w)).trans hp.ext).weaken (fun _ _ => trivial)
    exact bF ho hp.sim hp.defers x1 hk
  · cases h
  · cases h
end
end Go.Px
end
section
namespace Go.Px
section
variable {E E' : Env} {N N' : Nat} {P : Program} {n0 : Nz} {σ : Nat → Option (Nat × Nat)} {w : World}
def AC.re : AC (std E N) → AC (std E' N')
 | .int k i => .int k i
 | .bool b => .bool b
 | .str s => .str s
 | .nil e => .nil e
 | .imm e nw l => .imm e nw l
 | .own e id => .own e id
 | .ptr b off => .ptr b off
 | .aptr b off n sz i inner => .aptr b off n sz i inner
 | .eptr id i off => .eptr id i off
 | .iptr e nw l i off => .iptr e nw l i off
 | .fn f caps => .fn f caps
 | .nilptr => .nilptr
def Val.re (v : Val (std E N)) : Val (std E' N') := { agg := v.agg, cs := v.cs.map AC.re }
def AV.re : AV (std E N) → AV (std E' N')
 | .val v => .val v.re
 | .tup vs => .tup (vs.map Val.re)
def HEnt.re (h : HEnt (std E N)) : HEnt (std E' N') := { e := h.e, frozen := h.frozen, nw := h.nw, l := h.l, dirty := h.dirty }
def reH (hs : List (Nat × HEnt (std E N))) : List (Nat × HEnt (std E' N')) := hs.map fun (n, h) => (n, h.re)
variable {hs : List (Nat × HEnt (std E N))}
theorem db (n : Nat) : (AP (reH hs : List (Nat × HEnt (std E' N')))).getH n = ((AP hs).getH n).map HEnt.re := Q9 HEnt.re hs n
theorem GT {n : Nat} {h' : HEnt (std E' N')} (h : (AP (reH hs : List (Nat × HEnt (std E' N')))).getH n = some h') : ∃ h0, (AP hs).getH n = some h0 ∧ h' = h0.re := by
 rw [db] at h
 obtain ⟨h0, h1, h2⟩ := Option.map_eq_some_iff.1 h
 exact ⟨h0, h1, h2.symm⟩
theorem Xz {b : Nat} : InM noB σ (AP (reH hs : List (Nat × HEnt (std E' N')))) b ↔ InM noB σ (AP hs) b := by
 constructor
 ·rintro (⟨n, e, h, _⟩ | ⟨n, h, cap, h1, h2, h3⟩)
  ·cases h
  ·obtain ⟨h0, h4, rfl⟩ := GT h1
   exact .inr ⟨n, h0, cap, h4, h2, h3⟩
 ·rintro (⟨n, e, h, _⟩ | ⟨n, h, cap, h1, h2, h3⟩)
  ·cases h
  ·exact .inr ⟨n, h.re, cap, by rw [db, h1]; rfl, h2, h3⟩
theorem aS {nw : Bool} {b : Nat} (h : StB n0 noB σ (AP hs) nw b) : StB n0 noB σ (AP (reH hs : List (Nat × HEnt (std E' N')))) nw b := ⟨fun hm => h.1 (Xz.1 hm), h.2⟩
theorem RelC.re {c : AC (std E N)} {v : Value} (h : RelC P n0 noB σ (AP hs) w c v) : RelC P n0 noB σ (AP (reH hs : List (Nat × HEnt (std E' N')))) w c.re v := by
 cases c with
 | int k i => exact h
 | bool b => exact h
 | str s => exact h
 | nil e => exact h
 | nilptr => exact h
 | imm e nw l => obtain ⟨t, ht, hr⟩ := h; exact ⟨t, ht, hr.st (fun b hb => aS hb)⟩
 | own e id =>
  obtain ⟨h1, h2⟩ := h
  refine ⟨h1, fun h' hh => ?_⟩
  obtain ⟨h0, h3, rfl⟩ := GT hh
  exact h2 h0 h3
 | ptr b off => obtain ⟨blk, h1, h2⟩ := h; exact ⟨blk, h1, fun e he => by cases he⟩
 | aptr b off n sz i inner => obtain ⟨h0, h1, blk, h2, h3⟩ := h; exact ⟨h0, h1, blk, h2, fun e he => by cases he⟩
 | eptr id i off =>
  obtain ⟨h0, blk, o, hv, hk⟩ := h
  refine ⟨h0, blk, o, hv, fun h' hh => ?_⟩
  obtain ⟨h1, h3, rfl⟩ := GT hh
  exact hk h1 h3
 | iptr e nw l i off =>
  obtain ⟨h0, h1, t, ts, blk, boff, len, cap, ht, hts, hr, hv⟩ := h
  exact ⟨h0, h1, t, ts, blk, boff, len, cap, ht, hts, hr.st (fun b hb => aS hb), hv⟩
 | fn f caps =>
  obtain ⟨vs, hv, hl, hp⟩ := h
  refine ⟨vs, hv, hl, fun i b o hc => ?_⟩
  obtain ⟨y, hy, blk, h2, h3⟩ := hp i b o hc
  exact ⟨y, hy, blk, h2, fun e he => by cases he⟩
theorem RelCs.re : ∀ {cs : List (AC (std E N))} {vs : List Value}, RelCs P n0 noB σ (AP hs) w cs vs → RelCs P n0 noB σ (AP (reH hs : List (Nat × HEnt (std E' N')))) w (cs.map AC.re) vs
 | [], [], _ => trivial
 | c :: cs, v :: vs, h => ⟨h.1.re, RelCs.re h.2⟩
 | [], _ :: _, h => h.elim
 | _ :: _, [], h => h.elim
theorem RelVal.re {x : Val (std E N)} {v : Value} (h : RelVal P n0 noB σ (AP hs) w x v) : RelVal P n0 noB σ (AP (reH hs : List (Nat × HEnt (std E' N')))) w x.re v := ⟨RelCs.re h.1, h.2⟩
theorem RelVals.re : ∀ {cs : List (Val (std E N))} {vs : List Value}, RelVals P n0 noB σ (AP hs) w cs vs → RelVals P n0 noB σ (AP (reH hs : List (Nat × HEnt (std E' N')))) w (cs.map Val.re) vs
 | [], [], _ => trivial
 | c :: cs, v :: vs, h => ⟨h.1.re, RelVals.re h.2⟩
 | [], _ :: _, h => h.elim
 | _ :: _, [], h => h.elim
theorem RelAV.re {x : AV (std E N)} {v : Value} (h : RelAV P n0 noB σ (AP hs) w x v) : RelAV P n0 noB σ (AP (reH hs : List (Nat × HEnt (std E' N')))) w x.re v := by
 cases x with
 | val x => exact RelVal.re (x := x) h
 | tup xs => obtain ⟨vs, h1, h2⟩ := h; exact ⟨vs, h1, h2.re⟩
theorem RelArgs.re : ∀ {xs : List (AV (std E N))} {vs : List Value}, RelArgs P n0 noB σ (AP hs) w xs vs → RelArgs P n0 noB σ (AP (reH hs : List (Nat × HEnt (std E' N')))) w (xs.map AV.re) vs
 | [], [], _ => trivial
 | c :: cs, v :: vs, h => ⟨h.1.re, RelArgs.re h.2⟩
 | [], _ :: _, h => h.elim
 | _ :: _, [], h => h.elim
theorem Mem.re (m : Mem P n0 noB σ (AP hs) w) : Mem P n0 noB σ (AP (reH hs : List (Nat × HEnt (std E' N')))) w := by
 refine ⟨fun n e he => (by cases he), fun n h' hh => ?_, fun b b' e e' blk he => (by cases he), fun n n' h h' blk cap cap' hh hh' => ?_, fun b e n h blk cap he => (by cases he)⟩
 ·obtain ⟨h0, h1, rfl⟩ := GT hh
  obtain ⟨t, ts, h2, h3, h4, h5⟩ := m.H n h0 h1
  refine ⟨t, ts, h2, h3, h4, ?_⟩
  rcases h5 with h5 | ⟨blk, cap, cells, el, a1, a2, a3, a4, a5, a6, v, a7, a8⟩
  ·exact .inl h5
  ·exact .inr ⟨blk, cap, cells, el, a1, a2, a3, a4, a5, a6, v, a7, fun i j t' hi hj => (a8 i j t' hi hj).st (fun b hb => aS hb)⟩
 ·obtain ⟨h0, h1, rfl⟩ := GT hh
  obtain ⟨h0', h1', rfl⟩ := GT hh'
  exact m.uH n n' h0 h0' blk cap cap' h1 h1'
theorem XW (a b : List (Nat × HEnt (std E N))) : (reH (a ++ b) : List (Nat × HEnt (std E' N'))) = reH a ++ reH b := by simp [reH]
theorem YT (a : List (Nat × HEnt (std E N))) : (reH a : List (Nat × HEnt (std E' N'))).length = a.length := by simp [reH]
theorem HY {give : Bool} : ∀ {ts : List TypeId} {q : Nat} {ls rest : List Ab} {cs : List (AC (std E N))} {h : List (Nat × HEnt (std E N))}, Ac (O := std E N) P give q ts ls = some (cs, h, rest) → Ac (O := std E' N') P give q ts ls = some (cs.map AC.re, reH h, rest)
 | [], q, ls, rest, cs, h, he => by
  simp only [Ac] at he ⊢; cases he; rfl
 | t :: ts, q, [], rest, cs, h, he => by simp only [Ac] at he; cases he
 | t :: ts, q, l :: ls, rest, cs, h, he => by
  simp only [Ac] at he ⊢
  cases hl : AG P t <;> rw [hl] at he <;> cases l <;> simp only at he <;> try (cases he; done)
  ·obtain ⟨⟨cs1, h1, r1⟩, e1, e2⟩ := Option.map_eq_some_iff.1 he
   cases e2
   simp only [HY e1]; rfl
  ·obtain ⟨⟨cs1, h1, r1⟩, e1, e2⟩ := Option.map_eq_some_iff.1 he
   cases e2
   simp only [HY e1]; rfl
  ·obtain ⟨⟨cs1, h1, r1⟩, e1, e2⟩ := Option.map_eq_some_iff.1 he
   cases e2
   simp only [HY e1]; rfl
  ·cases give with
   | false =>
    obtain ⟨⟨cs1, h1, r1⟩, e1, e2⟩ := Option.map_eq_some_iff.1 he
    cases e2
    simp only [HY e1]; rfl
   | true =>
    obtain ⟨⟨cs1, h1, r1⟩, e1, e2⟩ := Option.map_eq_some_iff.1 he
    cases e2
    simp only [HY e1]; rfl
theorem Sf : ∀ {ts : List TypeId} {gv : List Bool} {q : Nat} {fns : List Nat} {ls : List Ab} {vs : List (AV (std E N))} {hs : List (Nat × HEnt (std E N))}, As (O := std E N) P gv q ts fns ls = some (vs, hs) → As (O := std E' N') P gv q ts fns ls = some (vs.map AV.re, reH hs)
  | [], gv, q, fns, ls, vs, hs, h => by
    unfold As at h ⊢
    cases fns <;> cases ls <;> simp only at h ⊢ <;> cases h
    rfl
  | t :: ts, gv, q, fns, ls, vs, hs, h => by
    unfold As at h ⊢
    cases hl : AG P t <;> rw [hl] at h <;> simp only at h ⊢
    all_goals first
      | (split at h
         · obtain ⟨⟨r, h1⟩, e1, e2⟩ := Option.map_eq_some_iff.1 h
           cases e2
           simp only [Sf e1]; rfl
         · cases h
         done)
      | (split at h
         · cases h
         · rename_i l hl2
           split at h
           · cases h
           · rename_i cs h1 ls1 hc
             obtain ⟨⟨r, h2⟩, e1, e2⟩ := Option.map_eq_some_iff.1 h
             cases e2
             simp only [HY hc, YT, Sf e1]
             simp [AV.re, Val.re, XW])
theorem E7 {own nw : Bool} {c : List PV} : ∀ {ts : List TypeId} {j q : Nat} {cs : List (AC (std E N))} {h : List (Nat × HEnt (std E N))}, Ae (O := std E N) P own nw c j q ts = some (cs, h) → Ae (O := std E' N') P own nw c j q ts = some (cs.map AC.re, reH h)
 | [], j, q, cs, h, he => by
  simp only [Ae] at he ⊢; cases he; rfl
 | t :: ts, j, q, cs, h, he => by
  simp only [Ae] at he ⊢
  cases hl : AG P t <;> rw [hl] at he <;> simp only at he <;> try (cases he; done)
  ·obtain ⟨⟨cs1, h1⟩, e1, e2⟩ := Option.map_eq_some_iff.1 he
   cases e2
   simp only [E7 e1]; rfl
  ·obtain ⟨⟨cs1, h1⟩, e1, e2⟩ := Option.map_eq_some_iff.1 he
   cases e2
   simp only [E7 e1]; rfl
  ·obtain ⟨⟨cs1, h1⟩, e1, e2⟩ := Option.map_eq_some_iff.1 he
   cases e2
   simp only [E7 e1]; rfl
  ·cases own with
   | false =>
    obtain ⟨⟨cs1, h1⟩, e1, e2⟩ := Option.map_eq_some_iff.1 he
    cases e2
    simp only [E7 e1]; rfl
   | true =>
    obtain ⟨⟨cs1, h1⟩, e1, e2⟩ := Option.map_eq_some_iff.1 he
    cases e2
    simp only [E7 e1]; rfl
theorem T7 {own nw : Bool} {c : List PV} : ∀ {ts : List TypeId} {j q : Nat} {vs : List (Val (std E N))} {h : List (Nat × HEnt (std E N))}, A3 (O := std E N) P own nw c j q ts = some (vs, h) → A3 (O := std E' N') P own nw c j q ts = some (vs.map Val.re, reH h)
 | [], j, q, vs, h, he => by
  simp only [A3] at he ⊢; cases he; rfl
 | t :: ts, j, q, vs, h, he => by
  simp only [A3] at he ⊢
  split at he
  ·cases he
  ·rename_i l hl
   split at he
   ·cases he
   ·rename_i cs h1 hc
    split at he
    ·cases he
    ·rename_i vs2 h2 hv
     cases he
     simp only [hl, E7 hc, YT, T7 hv]
     simp [Val.re, XW]
theorem jC (vs : List (Val (std E N))) : (Ie (vs.map Val.re) : AV (std E' N')) = (Ie vs).re := by
 match vs with
 | [] => rfl
 | [v] => rfl
 | v :: v2 :: vs => rfl
theorem Ret.re {ci : CI} {fn : Func} {rs : List PV} {e : Ending} {w' : World} (h : Ret (E := E) (N := N) P ci n0 σ (AP hs) w fn rs e w') : Ret (E := E') (N := N') P ci n0 σ (AP (reH hs)) w fn rs e w' := by
 cases e with
 | panicked ch => exact h.elim
 | outgrown => exact h.elim
 | returned v =>
  obtain ⟨h1, h2, h3, h4, h5, h6⟩ := h
  refine ⟨h1, h2, h3, h4, fun b hb hm => h5 b hb (fun h => hm (Xz.2 h)), fun q => ?_⟩
  obtain ⟨σ', vs, hs', a1, a2, a3, a4⟩ := h6 q
  exact ⟨σ', vs.map Val.re, reH hs', T7 a1, a2.re, by rw [jC]; exact a3.re, fun b hb => (a4 b (Xz.1 hb)).imp (fun h => Xz.2 h) id⟩
theorem kL (hs : List (Nat × HEnt (std E N))) : (reH (reH hs : List (Nat × HEnt (std E' N'))) : List (Nat × HEnt (std E N))) = hs := by
 simp only [reH, List.map_map]
 conv => rhs; rw [← List.map_id hs]
 rfl
theorem UI {ci : CI} (h : ∀ (ls rs : List PV), E' ci.f ci.fns ls = some rs → ∀ fn, P.funcs[ci.f]? = some fn → ∀ (vs : List (AV (std E N))) (hs : List (Nat × HEnt (std E N))), As (O := std E N) P ci.gives 1 fn.params.toList ci.fns (ls.map PV.leaf) = some (vs, hs) →
    ∀ (n0 : Nz) (σ : Nat → Option (Nat × Nat)) (w : World) (args : List Value), n0.n = w.heap.size → Mem P n0 noB σ (AP hs) w → RelArgs P n0 noB σ (AP hs) w vs args → (U6 ci.gives = true → ∀ q, σ q = none) → Calls P ci.f args.toArray w (Ret (E := E) (N := N) P ci n0 σ (AP hs) w fn rs)) : BT P E' N' ci := by
  intro fn hfn ls rs he vs hs hav n0 σ w args hn0 m hr hni
  refine (h ls rs he fn hfn _ _ (Sf hav) n0 σ w args hn0 m.re hr.re hni).mono (fun e w' hret => ?_)
  have := Ret.re (E' := E') (N' := N') hret
  rw [kL] at this
  exact this
theorem Ma {ci : CI} (h : ∀ (ls rs : List PV), E' ci.f ci.fns ls = some rs → ∀ fn, P.funcs[ci.f]? = some fn → ∀ (vs : List (AV (std E N))) (hs : List (Nat × HEnt (std E N))), As (O := std E N) P ci.gives 1 fn.params.toList ci.fns (ls.map PV.leaf) = some (vs, hs) →
    ∀ (n0 : Nz) (σ : Nat → Option (Nat × Nat)) (w : World) (args : List Value), n0.n = w.heap.size → Mem P n0 noB σ (AP hs) w → RelArgs P n0 noB σ (AP hs) w vs args → Calls P ci.f args.toArray w (Ret (E := E) (N := N) P ci n0 σ (AP hs) w fn rs)) : BT P E' N' ci :=
  UI fun ls rs he fn hfn vs hs hav n0 σ w args hn0 m hr _ => h ls rs he fn hfn vs hs hav n0 σ w args hn0 m hr
theorem iJ (hmix : P.follows .mixedOrders = true) {cfg : Cfg} (hΓ : ∀ ci ∈ cfg.gam, BT P E N ci ∧ BT P E N { ci with own := false }) {ci : CI} (h : ∀ (ls rs : List PV), E' ci.f ci.fns ls = some rs → XF (O := std E N) P cfg ci.own ci.nw ci.gives ci.f ci.fns (ls.map PV.leaf) = some rs) :
    BT P E' N' ci ∧ BT P E' N' { ci with own := false } :=
  ⟨Ma (fun ls rs he fn hfn vs hs hv n0 σ w args hn0 m hr => cA hmix hΓ (own' := ci.own) id (h ls rs he) hfn hv hn0 m hr),
   Ma (ci := { ci with own := false }) (fun ls rs he fn hfn vs hs hv n0 σ w args hn0 m hr => cA hmix hΓ (own' := false) (fun e => by cases e) (h ls rs he) hfn hv hn0 m hr)⟩
end
end Go.Px
end
section
namespace Go.Px
def Xo : Operand → Bool
 | .const (.slice none 0 0) => true
 | _ => false
def JU (T : TypeId) : Code → Option (Code × Code)
 | .seq (.region _ r0 false) (.seq (.seq (.region _ r1 false) (.cond (.tmp 4) nb .skip)) tail) => match r0.toList, r1.toList with
  | [⟨some 2, .assign (.const _), _, _, _, none⟩], [⟨some 3, .move (.tmp 0), _, _, _, none⟩, ⟨some 4, .binOp .eql U (.tmp 3) z _, _, _, _, none⟩] => match Nat.beq U T && Xo z with
   | true => some (nb, tail)
   | false => none
  | _, _ => none
 | _ => none
def F4 {O : Alg} (e : TypeId) (l : O.L) : State O := { tm := Bc 0 [.val ⟨false, [.imm e false l]⟩] .e, bx := [], hp := [], st := 1 }
section
variable {E : Env} {N : Nat} {P : Program} {cfg : Cfg} {n0 n0' : Nz} {nt : Nat} {β β' : Nat → Option Nat} {σ σ' : Nat → Option (Nat × Nat)} {s s' s2 : St0 E N} {a a' : Act} {w w' : World}
theorem Sim.put_free (hs : Sim P n0 nt β σ s a w) {d : Nat} {z : Value} (hd : s.getT d = none) (hg : ∀ n tv, s.getT n = some tv → tv.gs = []) : Sim P n0 nt β σ s (a.put (some d) z) w := by
 refine ⟨hs.n0le, by simp [Act.put, hs.size], fun n tv hn => ?_, hs.M⟩
 have hne : n ≠ d := fun e => by rw [e, hd] at hn; cases hn
 rw [ED hne]
 have g0 := hg n tv hn
 rcases hs.T n tv hn with ⟨h1, h2⟩ | ⟨h1, h2⟩
 ·exact .inl ⟨by rw [g0]; exact fun n b hm => by simp at hm, h2⟩
 ·exact (h1 (by rw [g0]; exact fun n b hm => by simp at hm)).elim
theorem Se {ops : Array Oper} {Q : Exit → Act → World → Prop} {i : Nat} {o : Oper} (ho : ops[i]? = some o) (hg : o.guard = none) {v : Value} (hx : (execOp a.eval o).run P w = .ok (.value v) w) {K : Act → World → Prop} (hK : K (a.put o.dst v) w) : wpOp P ops Q i K a w := by
 unfold wpOp
 simp only [ho, Region.wanted, hg, if_true]
 refine .inl ?_
 unfold Oper.wp
 rw [hx]; exact hK
theorem hG {d : Option Tmp} {t : TypeId} {p : String} {af : Array Edge} {g : Option (Nat × Bool)} {x : Operand} {v : Value} (h : a.eval x = v) : (execOp a.eval ⟨d, .move x, t, p, af, g⟩).run P w = .ok (.value v) w := by
 subst h; rfl
theorem fE {d : Option Tmp} {t : TypeId} {p : String} {af : Array Edge} {g : Option (Nat × Bool)} {x : Operand} {v : Value} (h : a.eval x = v) : (execOp a.eval ⟨d, .assign x, t, p, af, g⟩).run P w = .ok (.value v) w := by
 subst h; rfl
theorem gF {o : Oper} {Q : Exit → Act → World → Prop} (hg : o.guard = none) {v : Value} (hx : (execOp a.eval o).run P w = .ok (.value v) w) (hK : Q .normal (a.put o.dst v) w) : wpOps P #[o] Q (List.range 1) a w := by
 show wpOps P #[o] Q [0] a w
 rw [wpOps_cons]
 exact Se rfl hg hx hK
theorem gU {o o' : Oper} {Q : Exit → Act → World → Prop} (hg : o.guard = none) (hg' : o'.guard = none) {v v' : Value} (hx : (execOp a.eval o).run P w = .ok (.value v) w) (hx' : (execOp (a.put o.dst v).eval o').run P w = .ok (.value v') w)
    (hK : Q .normal ((a.put o.dst v).put o'.dst v') w) : wpOps P #[o, o'] Q (List.range 2) a w := by
  show wpOps P #[o, o'] Q [0, 1] a w
  rw [wpOps_cons]
  refine Se rfl hg hx ?_
  rw [wpOps_cons]
  exact Se rfl hg' hx' hK
theorem dQ (hmix : P.follows .mixedOrders = true) (hΓ : ∀ ci ∈ cfg.gam, BT P E N ci ∧ BT P E N { ci with own := false }) {own own' nw : Bool} (ho : own' = true → own = true) {f : FuncId} {T e : TypeId} {fn : Func} (hfn : P.funcs[f]? = some fn) (hp : fn.params.toList = [T]) (hT : P.underlying T = some (.slice e))
    {body nb tail : Code} (hb : fn.body = some body) (hpc : JU T body = some (nb, tail)) (ht1 : CJ fn.ntmps nb = true) (ht2 : CJ fn.ntmps tail = true) (hna : (an P nb).nrm.isNone = true) (hnt : 5 ≤ fn.ntmps) {lv : Lv} {l : Rows}
    (h1 : l = [] → XL (O := std E N) P cfg 6 nb true lv (F4 e l) (Wn P own nw fn) = some [.rows l]) (h2 : XL (O := std E N) P cfg 6 tail true lv (F4 e l) (Wn P own nw fn) = some [.rows l])
    {vs : List (AV (std E N))} {hs : List (Nat × HEnt (std E N))} (hv : As (O := std E N) P [] 1 fn.params.toList [] ([PV.rows l].map PV.leaf) = some (vs, hs)) (hn0 : n0.n = w.heap.size) (m : Mem P n0 noB σ (AP hs) w) {args : List Value} (hr : RelArgs P n0 noB σ (AP hs) w vs args) :
    Calls P f args.toArray w (Ret (E := E) (N := N) P ⟨f, [], own', nw, []⟩ n0 σ (AP hs) w fn [.rows l]) := by
  have hlk : AG P T = .sl e := by simp [AG, hT]
  obtain ⟨rfl, rfl⟩ : vs = [.val ⟨false, [.imm e false l]⟩] ∧ hs = [] := by
    rw [hp] at hv
    unfold As at hv
    simp only [hlk] at hv
    cases ht : AK P T with
    | none => rw [ht] at hv; cases hv
    | some ts =>
      rw [ht] at hv
      have : ts = [T] := by
        unfold AK at ht
        simp only [CF, BN, hT] at ht
        split at ht
        · cases ht; rfl
        · cases ht
      subst this
      have hag : AQ P T = false := by simp [AQ, hT]
      simp [Ac, hlk, PV.leaf, As, hag] at hv
      exact ⟨hv.1.symm, hv.2⟩
  obtain ⟨v, rfl⟩ : ∃ v, args = [v] := by
    have := hr.len
    match args, this with
    | [v], _ => exact ⟨v, rfl⟩
  have hv0 : RelVal P n0 noB σ (AP []) w (⟨false, [.imm e false l]⟩ : Val (std E N)) v := hr.1
  obtain ⟨hc1, hc2⟩ := hv0
  have hc2 : v.oneCell' = true := hc2
  rw [BE hc2] at hc1
  obtain ⟨t0, ht0, hrep⟩ : RelC P n0 noB σ (AP ([] : List (Nat × HEnt (std E N)))) w (.imm e false l) v := hc1.1
  obtain ⟨ad, len, cap, hvs, hnil⟩ : ∃ ad len cap, v = .slice ad len cap ∧ (ad = none → l = []) := by
    cases hrep with
    | sl v h hts hl hrl hcap hm hv =>
      refine ⟨_, _, _, rfl, fun ha => ?_⟩
      rcases hm with hm | ⟨b, off, hb, _⟩
      · exact List.length_eq_zero_iff.1 (by rw [hl]; exact hm)
      · rw [hb] at ha; cases ha
  subst hvs
  unfold JU at hpc
  split at hpc
  case h_2 => cases hpc
  rename_i i0 r0 i1 r1 nb' tail'
  split at hpc
  case h_2 => cases hpc
  rename_i c0 ty0 pos0 af0 ty1 pos1 af1 U z uT ty2 pos2 af2 hr0 hr1
  split at hpc
  case h_2 => cases hpc
  rename_i hUz
  cases hpc
  simp only [Bool.and_eq_true] at hUz
  have hU := AA.1 hUz.1
  subst hU
  obtain rfl : z = .const (.slice none 0 0) := by
    have := hUz.2
    unfold Xo at this
    split at this
    · rfl
    · cases this
  have e0 : r0 = #[⟨some 2, .assign (.const c0), ty0, pos0, af0, none⟩] := by apply Array.ext'; exact hr0
  have e1 : r1 = #[⟨some 3, .move (.tmp 0), ty1, pos1, af1, none⟩, ⟨some 4, .binOp .eql U (.tmp 3) (.const (.slice none 0 0)) uT, ty2, pos2, af2, none⟩] := by apply Array.ext'; exact hr1
  subst e0; subst e1
  let sx : St0 E N := { tm := .e, bx := [], hp := [], st := 1 }
  have subx : Sub (AP ([] : List (Nat × HEnt (std E N)))) sx := Sub.of_same (fun _ => rfl) (fun _ => rfl)
  have mx : Mem P n0 noB σ sx w := subx.mem m
  have hrx : RelArgs P n0 noB σ sx w [.val ⟨false, [.imm e false l]⟩] [.slice ad len cap] := (subx.ext P (fun _ => False) noB σ w).relArgs hr
  have hfx : ∀ n, sx.st ≤ n → Jp sx n := fun n hn => ⟨fun k e he => (by cases he), fun k e he => (by cases he)⟩
  have hs1 := gf (s := sx) (nt := fn.ntmps) (Nat.le_of_eq hn0) mx hrx
  have wf1 : WF (F4 e l : St0 E N) := wf0 (s := sx) hfx (args := [.val ⟨false, [.imm e false l]⟩]) (fun x hx n hn => by simp at hx; subst hx; simp [AV.names, AB, AC.names] at hn)
  have hs1 : Sim P n0 (EK fn.ntmps [.slice ad len cap]).tmps.size noB σ (F4 e l : St0 E N) (EK fn.ntmps [.slice ad len cap]) w := hs1
  have subs1 : Sub sx (F4 e l : St0 E N) := Sub.of_same (fun _ => rfl) (fun _ => rfl)
  have free : ∀ d, d ≠ 0 → (F4 e l : St0 E N).getT d = none := fun d hd => by
    cases hx : (F4 e l : St0 E N).getT d with
    | none => rfl
    | some tv =>
      have hx : CQ (Bc 0 [.val ⟨false, [.imm e false l]⟩] (.e : TM (TV (std E N)))) d = some tv := hx
      rcases M4 hx with h | ⟨_, v, h1, _⟩
      · rw [Rf] at h; cases h
      · have := (List.getElem?_eq_some_iff.1 h1).1
        simp at this; omega
  have hs2 := ((hs1.put_free (d := 2) (z := c0) (free 2 (by omega)) wf1.gs).put_free (d := 3) (z := .slice ad len cap) (free 3 (by omega)) wf1.gs).put_free (d := 4) (z := .bool ad.isNone) (free 4 (by omega)) wf1.gs
  have hsz := UQ (nt := fn.ntmps) (vals := [.slice ad len cap])
  have ht1' := M0 hsz ht1
  have ht2' := M0 hsz ht2
  have x0 : ∀ {β' : Nat → Option Nat} {σ' : Nat → Option (Nat × Nat)} {s' : St0 E N} {w' : World}, Ext P (fun n => (F4 e l : St0 E N).st ≤ n) noB σ (F4 e l) w β' σ' s' w' → Ext P (fun _ => True) noB σ (AP ([] : List (Nat × HEnt (std E N)))) w β' σ' s' w' := fun x =>
    (((subx.ext P (fun _ => False) noB σ w).trans (subs1.ext P (fun _ => False) noB σ w)).trans x).weaken (fun _ _ => trivial)
  have hget0 : ((EK fn.ntmps [Value.slice ad len cap]).put (some 2) c0).tmps.getD 0 undef = .slice ad len cap := by
    rw [ED (by omega)]
    simp only [EK]
    rw [Array.getD_eq_getD_getElem?, Array.getElem?_append_left (by simp)]
    rfl
  have hget3 : (((EK fn.ntmps [Value.slice ad len cap]).put (some 2) c0).put (some 3) (.slice ad len cap)).tmps.getD 3 undef = .slice ad len cap := by
    refine KC ?_
    have : 5 ≤ (EK fn.ntmps [Value.slice ad len cap]).tmps.size := Nat.le_trans hnt hsz
    simp [Act.put]; omega
  have hget4 : ((((EK fn.ntmps [Value.slice ad len cap]).put (some 2) c0).put (some 3) (.slice ad len cap)).put (some 4) (.bool ad.isNone)).tmps.getD 4 undef = .bool ad.isNone := by
    refine KC ?_
    have : 5 ≤ (EK fn.ntmps [Value.slice ad len cap]).tmps.size := Nat.le_trans hnt hsz
    simp [Act.put]; omega
  generalize hB : bodyPost P fn (Ret (E := E) (N := N) P ⟨f, [], own', nw, []⟩ n0 σ (AP []) w fn [.rows l]) = B
  generalize hA : (((EK fn.ntmps [Value.slice ad len cap]).put (some 2) c0).put (some 3) (.slice ad len cap)).put (some 4) (.bool ad.isNone) = A at hs2 hget4
  have hAd : A.defers = [] := by rw [← hA]; rfl
  have fin : (Code.cond (.tmp 4) nb Code.skip).wp P (Exit.then (tail.wp P B) B) A w := by
    refine wp_cond_split (t := ad.isNone) (c := .tmp 4) (a := A) hget4 (fun ht => ?_) (fun ht => ?_)
    · have hl := hnil (by cases ad with | none => rfl | some _ => simp at ht)
      refine aH hmix hΓ 6 n0 _ _ ht1' _ _ _ _ _ noB σ _ w _ (h1 hl) hs2 wf1 (fun ex s' β' σ' a' w' hk mm hmm hp wf' hle => ?_)
      have hfin := bF (f := f) (fns := []) (gives := []) (fn := fn) ho hp.sim (hp.defers.trans hAd) (x0 hp.ext) hk
      rw [hB] at hfin
      cases ex with
      | nrm =>
        have : (an P nb).nrm = some mm := hmm
        rw [this] at hna; cases hna
      | ret => exact hfin
      | ext id => exact hfin
    · refine wp_skip ?_
      refine aH hmix hΓ 6 n0 _ _ ht2' _ _ _ _ _ noB σ _ w B h2 hs2 wf1 (fun ex s' β' σ' a' w' hk mm hmm hp wf' hle => ?_)
      rw [← hB]
      exact bF ho hp.sim (hp.defers.trans hAd) (x0 hp.ext) hk
  refine calls_of_wp hfn hb ?_
  rw [hB]
  refine wp_seq (wp_region (gF (o := ⟨some 2, .assign (.const c0), ty0, pos0, af0, none⟩) rfl (v := c0) (fE (x := .const c0) rfl) ?_))
  show (Code.seq (Code.seq _ _) tail).wp P B ((EK fn.ntmps [Value.slice ad len cap]).put (some 2) c0) w
  refine wp_seq (wp_seq (wp_region (gU (o := ⟨some 3, .move (.tmp 0), ty1, pos1, af1, none⟩) (o' := ⟨some 4, .binOp .eql U (.tmp 3) (.const (.slice none 0 0)) uT, ty2, pos2, af2, none⟩) rfl rfl (v := .slice ad len cap) (v' := .bool ad.isNone)
    (hG (a := (EK fn.ntmps [Value.slice ad len cap]).put (some 2) c0) (x := .tmp 0) hget0) (CM (x := do eqGuard .eql U (.tmp 3) (.const (.slice none 0 0)) ((((EK fn.ntmps [Value.slice ad len cap]).put (some 2) c0).put (some 3) (.slice ad len cap)).eval (.tmp 3)) (.slice none 0 0); Go.binOp .eql U ((((EK fn.ntmps [Value.slice ad len cap]).put (some 2) c0).put (some 3) (.slice ad len cap)).eval (.tmp 3)) (.slice none 0 0)) (by simp [execOp, Act.eval]) (by
    rw [show ((((EK fn.ntmps [Value.slice ad len cap]).put (some 2) c0).put (some 3) (.slice ad len cap)).eval (.tmp 3)) = .slice ad len cap from hget3]
    exact Ai (HG _ _ _ _ _ _ rfl (by simp)) (Lib.run_eql_slice_nil (P := P) w U e ad len cap 0 0 hT))) ?_)))
  rw [← hA] at fin
  exact fin
end
end Go.Px
end
section
namespace Go.Px
def Qm : List Nat → List PV → Bool
 | [], [] => true
 | k :: ks, p :: ps => (match p with | .int _ => Nat.beq k 0 | .bool _ => Nat.beq k 1 | .str _ => Nat.beq k 2 | .rows _ => Nat.beq k 3) && Qm ks ps
 | _, _ => false
structure Ags (O : Alg) where
 I : Nat → O.I
 B : Nat → O.B
 S : Nat → O.S
 L : Nat → O.L
def xr {O : Alg} (x : Ags O) : List Nat → Nat → List O.Lf
 | [], _ => []
 | k :: ks, j => (match k with | 0 => .int (x.I j) | 1 => .bool (x.B j) | 2 => .str (x.S j) | _ => .rows (x.L j)) :: xr x ks (j + 1)
def cr (O : Alg) (c : O.C) : List Nat → Nat → List O.Lf
 | [], _ => []
 | k :: ks, j => (match k with | 0 => .int (O.cI c j) | 1 => .bool (O.cB c j) | 2 => .str (O.cS c j) | _ => .rows (O.cL c j)) :: cr O c ks (j + 1)
def rr (O : Alg) (l : O.L) (i : O.I) : List Nat → Nat → List O.Lf
 | [], _ => []
 | k :: ks, j => (match k with | 0 => .int (O.rI l i j) | 1 => .bool (O.rB l i j) | 2 => .str (O.rS l i j) | _ => .rows (O.rL l i j)) :: rr O l i ks (j + 1)
def kI : List Nat := [0,0,0,0,0,0,0,0,0,0,0,0,0,0,3,0,3,3,1,3,1,0,0,0,3,0,0,0]
def kR : List Nat := [2,0,0,0,0,0,0,0,1,0,0,0,0,3]
def kM : List Nat := [2,0,0,0,0,0,0,0,1,0,0,0,0,3,0,0,1,3,0,0,0,0,0]
def ap (O : Alg) (a b : List O.Lf) : List O.Lf := a ++ b
def xOf {E : Env} {N : Nat} (ls : List PV) : Ags (std E N) := { I := fun j => pvI (AF ls j), B := fun j => pvB (AF ls j), S := fun j => pvS (AF ls j), L := fun j => pvL (AF ls j) }
theorem bq {E : Env} {N : Nat} : ∀ {ks : List Nat} {ps pre : List PV}, Qm ks ps = true → ps.map PV.leaf = xr (xOf (E := E) (N := N) (pre ++ ps)) ks pre.length
 | [], [], pre, _ => rfl
 | k :: ks, p :: ps, pre, h => by
  simp only [Qm, Bool.and_eq_true] at h
  have ih := bq (E := E) (N := N) (ks := ks) (ps := ps) (pre := pre ++ [p]) h.2
  simp only [List.map_cons, xr]
  have hc : AF (pre ++ p :: ps) pre.length = p := by
   unfold AF
   rw [List.getD_eq_getElem?_getD, List.getElem?_append_right (Nat.le_refl _)]; simp
  rw [List.append_assoc, List.length_append] at ih
  have ih : ps.map PV.leaf = xr (xOf (E := E) (N := N) (pre ++ p :: ps)) ks (pre.length + 1) := ih
  rw [ih]
  congr 1
  have h1 := h.1
  cases p with
  | int n => have := AA.1 h1; subst this; simp [xOf, hc, PV.leaf]
  | bool n => have := AA.1 h1; subst this; simp [xOf, hc, PV.leaf]
  | str n => have := AA.1 h1; subst this; simp [xOf, hc, PV.leaf]
  | rows n => have := AA.1 h1; subst this; simp [xOf, hc, PV.leaf]
 | [], _ :: _, _, h => by simp [Qm] at h
 | _ :: _, [], _, h => by simp [Qm] at h
theorem dB {E : Env} {N : Nat} {ks : List Nat} {ls : List PV} (h : Qm ks ls = true) : ls.map PV.leaf = xr (xOf (E := E) (N := N) ls) ks 0 := bq (pre := []) h
def PN (ks : List Nat) (ls : List PV) (F : Option (List PV)) : Option (List PV) := match Qm ks ls with
 | true => F
 | false => none
theorem au {ks : List Nat} {ls rs : List PV} {F : Option (List PV)} (h : PN ks ls F = some rs) : Qm ks ls = true ∧ F = some rs := by
 unfold PN at h
 split at h
 ·rename_i hs; exact ⟨hs, h⟩
 ·cases h
abbrev VV (P : Program) (E : Env) (N : Nat) (ci : CI) : Prop := BT P E N ci ∧ BT P E N { ci with own := false }
theorem DV {P : Program} {E : Env} {N : Nat} : ∀ ci ∈ ([] : List CI), VV P E N ci := fun ci h => by simp at h
theorem Ag {P : Program} {E : Env} {N : Nat} {c : CI} {l : List CI} (h : VV P E N c) (k : ∀ ci ∈ l, VV P E N ci) : ∀ ci ∈ c :: l, VV P E N ci := fun ci hm => by
 rcases List.mem_cons.1 hm with rfl | hm
 ·exact h
 ·exact k ci hm
theorem B3 {P : Program} (hmix : P.follows .mixedOrders = true) {E : Env} {N : Nat} {cfg : Cfg} (hΓ : ∀ ci ∈ cfg.gam, VV P E N ci) {ci : CI} {ks : List Nat} {c F : List PV → Option (List PV)} (hc : ∀ ls, c ls = PN ks ls (F ls))
    (hx : ∀ ls, XF (O := std E N) P cfg ci.own ci.nw ci.gives ci.f ci.fns (xr (xOf ls) ks 0) = F ls) {E' : Env} {N' : Nat} (h : ∀ ls, E' ci.f ci.fns ls = c ls) : VV P E' N' ci :=
  iJ hmix hΓ (fun ls rs he => by
    rw [h, hc] at he
    obtain ⟨h1, h2⟩ := au he
    rw [dB h1, hx]; exact h2)
def VK (n b : Nat) : Bool := decide (n ≤ 17592186044416 ∧ n * b ≤ 17592186044416)
def Lo (b : Nat) (ls : List PV) : Option (List PV) := match ls with
 | [.rows l] => match VK l.length b with
  | true => some [.rows l]
  | false => none
 | _ => none
def QC (T : TypeId) (fn : Func) : Code := match fn.body with
 | some c => match JU T c with
  | some (nb, _) => nb
  | none => .skip
 | none => .skip
def Qj (T : TypeId) (fn : Func) : Code := match fn.body with
 | some c => match JU T c with
  | some (_, t) => t
  | none => .skip
 | none => .skip
def Yp (fn : Func) : Lv := { nrm := MN fn.results.toList, ret := MN fn.results.toList, exts := [] }
def dq (P : Program) (T : TypeId) (fn : Func) : Bool := match fn.body with
 | some c => (JU T c).isSome && CJ fn.ntmps (QC T fn) && CJ fn.ntmps (Qj T fn) && (an P (QC T fn)).nrm.isNone && Nat.ble 5 fn.ntmps && AM fn.params.toList [T]
 | none => false
theorem Jk {P : Program} (hmix : P.follows .mixedOrders = true) {f : FuncId} {T e : TypeId} {b : Nat} {fn : Func} (hfn : P.funcs[f]? = some fn) (hT : P.underlying T = some (.slice e)) (hok : dq P T fn = true) (hb : b ≤ 1048576)
    (h1 : ∀ (O : Alg) (l : O.L), XL (O := O) P { gam := [] } 6 (QC T fn) true (Yp fn) (F4 e l) (Wn P true true fn) = O.ret [.rows O.lnil])
    (h2 : ∀ (O : Alg) (l : O.L), XL (O := O) P { gam := [] } 6 (Qj T fn) true (Yp fn) (F4 e l) (Wn P true true fn) = O.assert (O.small (O.llen (O.lapp (O.llit []) l)) b) (O.ret [.rows (O.lapp (O.llit []) l)]))
    {E' : Env} {N' : Nat} (h : ∀ ls, E' f [] ls = Lo b ls) : VV P E' N' ⟨f, [], true, true, []⟩ := by
  unfold dq at hok
  split at hok
  case h_2 => cases hok
  rename_i c hbody
  simp only [Bool.and_eq_true] at hok
  obtain ⟨⟨⟨⟨⟨k1, k2⟩, k3⟩, k4⟩, k5⟩, k6⟩ := hok
  have k5 := Nat.le_of_ble_eq_true k5
  have k6 := HN.1 k6
  obtain ⟨⟨nb, tail⟩, hpc⟩ := Option.isSome_iff_exists.1 k1
  have hnb : QC T fn = nb := by simp [QC, hbody, hpc]
  have htl : Qj T fn = tail := by simp [Qj, hbody, hpc]
  rw [hnb] at k2 k4
  rw [htl] at k3
  have main : ∀ own', (own' = true → true = true) → ∀ (ls rs : List PV), E' f [] ls = some rs → ∀ fn', P.funcs[f]? = some fn' → ∀ (vs : List (AV (std E' N'))) (hs : List (Nat × HEnt (std E' N'))), As (O := std E' N') P [] 1 fn'.params.toList [] (ls.map PV.leaf) = some (vs, hs) →
      ∀ (n0 : Nz) (σ : Nat → Option (Nat × Nat)) (w : World) (args : List Value), n0.n = w.heap.size → Mem P n0 noB σ (AP hs) w → RelArgs P n0 noB σ (AP hs) w vs args → Calls P f args.toArray w (Ret (E := E') (N := N') P ⟨f, [], own', true, []⟩ n0 σ (AP hs) w fn' rs) :=
    fun own' ho ls rs he fn' hfn' vs hs hv n0 σ w args hn0 m hr => by
      rw [hfn] at hfn'; cases hfn'
      rw [h] at he
      unfold Lo at he
      split at he
      case h_2 => cases he
      rename_i l
      split at he
      case h_2 => cases he
      rename_i hsm
      cases he
      unfold VK at hsm
      have hsm := of_decide_eq_true hsm
      refine dQ (cfg := { gam := [] }) hmix (fun ci hm => by simp at hm) ho hfn k6 hT hbody hpc k2 k3 k4 k5 (lv := Yp fn) (fun hl => ?_) ?_ hv hn0 m hr
      · rw [← hnb, h1, hl]; rfl
      · rw [← htl, h2]
        have : (decide ((0 : Int) ≤ ((([] ++ l : Rows).length : Nat) : Int) ∧ ((([] ++ l : Rows).length : Nat) : Int) ≤ 17592186044416 ∧ ((([] ++ l : Rows).length : Nat) : Int) * (b : Int) ≤ 17592186044416 ∧ b ≤ 1048576)) = true := by
          simp only [List.nil_append, decide_eq_true_eq]
          refine ⟨by omega, by omega, ?_, hb⟩
          have := hsm.2
          rw [← Int.natCast_mul]; omega
        show cond (decide ((0 : Int) ≤ ((([] ++ l : Rows).length : Nat) : Int) ∧ ((([] ++ l : Rows).length : Nat) : Int) ≤ 17592186044416 ∧ ((([] ++ l : Rows).length : Nat) : Int) * (b : Int) ≤ 17592186044416 ∧ b ≤ 1048576)) (some [PV.rows ([] ++ l)]) none = _
        rw [this]; rfl
  exact ⟨Ma (ci := ⟨f, [], true, true, []⟩) (main true (fun _ => rfl)), Ma (ci := ⟨f, [], false, true, []⟩) (main false (fun _ => rfl))⟩
end Go.Px
end
section
namespace Go.Px
open Go.RowKit
def X7 (ls : List PV) : Option (List PV) := match ls with
 | [.str s, .int c] => some [.int (Lib.indexByte s.data.toList c.toNat.toUInt8)]
 | _ => none
theorem dJ {P : Program} {f : FuncId} {T5 T9 T3 : TypeId} {fn : Func} (hfn : P.funcs[f]? = some fn) (hp : fn.params = #[T9, T5]) (hr : fn.resultTypes = #[T3]) (h9 : P.underlying T9 = some .string) (h5 : P.underlying T5 = some (.int .u8)) (h3 : P.underlying T3 = some (.int .i64)) (h3t : AK P T3 = some [T3])
    (hc : ∀ (s : ByteArray) (c : Int) (w : World), Calls P f #[.string s, .int .u8 c] w fun e w' => e = .returned (.int .i64 (Lib.indexByte s.data.toList c.toNat.toUInt8)) ∧ w' = w)
    {E' : Env} {N' : Nat} (h : ∀ ls, E' f [] ls = X7 ls) : VV P E' N' ⟨f, [], true, true, []⟩ := by
  have l9 : AG P T9 = .str := by simp [AG, h9]
  have l5 : AG P T5 = .int .u8 := by simp [AG, h5]
  have l3 : AG P T3 = .int .i64 := by simp [AG, h3]
  have a3 : AQ P T3 = false := by simp [AQ, h3]
  have a5 : AQ P T5 = false := by simp [AQ, h5]
  have a9 : AQ P T9 = false := by simp [AQ, h9]
  have ty : ∀ {T : TypeId} {x : List TypeId} {d : TypeDesc}, P.underlying T = some d → (∀ k, BN P (k + 1) T = some [T]) → AK P T = some x → x = [T] := fun {T x d} _ hk hx => by
    unfold AK at hx
    rw [show CF = 19 + 1 from rfl, hk] at hx
    simp only at hx
    split at hx
    · cases hx; rfl
    · cases hx
  have main : ∀ own', ∀ (ls rs : List PV), E' f [] ls = some rs → ∀ fn', P.funcs[f]? = some fn' → ∀ (vs : List (AV (std E' N'))) (hs : List (Nat × HEnt (std E' N'))), As (O := std E' N') P [] 1 fn'.params.toList [] (ls.map PV.leaf) = some (vs, hs) →
      ∀ (n0 : Nz) (σ : Nat → Option (Nat × Nat)) (w : World) (args : List Value), n0.n = w.heap.size → Mem P n0 noB σ (AP hs) w → RelArgs P n0 noB σ (AP hs) w vs args → Calls P f args.toArray w (Ret (E := E') (N := N') P ⟨f, [], own', true, []⟩ n0 σ (AP hs) w fn' rs) :=
    fun own' ls rs he fn' hfn' vs hs hv n0 σ w args hn0 m hra => by
      rw [hfn] at hfn'; cases hfn'
      rw [h] at he
      unfold X7 at he
      split at he
      case h_2 => cases he
      rename_i s c
      cases he
      rw [hp] at hv
      have hT9 : AK P T9 = none ∨ AK P T9 = some [T9] := by
        cases hx : AK P T9 with
        | none => exact .inl rfl
        | some x => exact .inr (by rw [ty h9 (fun k => by simp [BN, h9]) hx])
      have hT5 : AK P T5 = none ∨ AK P T5 = some [T5] := by
        cases hx : AK P T5 with
        | none => exact .inl rfl
        | some x => exact .inr (by rw [ty h5 (fun k => by simp [BN, h5]) hx])
      unfold As at hv
      simp only [l9] at hv
      rcases hT9 with hT9 | hT9
      · simp [hT9] at hv
      simp only [hT9, List.map_cons, List.map_nil, PV.leaf, Ac, l9, Option.map_some] at hv
      unfold As at hv
      simp only [l5] at hv
      rcases hT5 with hT5 | hT5
      · simp [hT5] at hv
      simp [hT5, Ac, l5, As, a9, a5] at hv
      obtain ⟨rfl, rfl⟩ := hv
      obtain ⟨v1, v2, rfl⟩ : ∃ v1 v2, args = [v1, v2] := by
        have := hra.len
        match args, this with
        | [v1, v2], _ => exact ⟨v1, v2, rfl⟩
      obtain ⟨q1, q2, _⟩ := hra
      have q1 : RelVal P n0 noB σ (AP []) w (⟨false, [.str s]⟩ : Val (std E' N')) v1 := q1
      have q2 : RelVal P n0 noB σ (AP []) w (⟨false, [.int .u8 c]⟩ : Val (std E' N')) v2 := q2
      obtain ⟨g1, g2⟩ := q1
      have g2 : v1.oneCell' = true := g2
      rw [BE g2] at g1
      have e1 : v1 = .string s := g1.1
      obtain ⟨k1, k2⟩ := q2
      have k2 : v2.oneCell' = true := k2
      rw [BE k2] at k1
      have e2 : v2 = .int .u8 c := k1.1
      subst e1; subst e2
      refine Calls.mono (hc s c w) (fun e w' hp2 => ?_)
      obtain ⟨rfl, rfl⟩ := hp2
      refine ⟨rfl, rfl, rfl, Nat.le_refl _, fun _ _ _ => rfl, fun q => ⟨fun _ => none, [⟨false, [.int .i64 _]⟩], [], ?_, ⟨fun _ _ h => (by cases h), fun _ _ h => (by cases h), fun _ _ _ _ _ h => (by cases h), fun _ _ _ _ _ _ _ h => (by cases h), fun _ _ _ _ _ _ h => (by cases h)⟩, ⟨⟨rfl, trivial⟩, rfl⟩, fun b hb => ?_⟩⟩
      · rw [hr]
        simp [A3, h3t, Ae, l3, a3]
        rfl
      · rcases hb with ⟨_, _, hx, _⟩ | ⟨_, _, _, hx, _⟩
        · cases hx
        · cases hx
  exact ⟨Ma (ci := ⟨f, [], true, true, []⟩) (main true), Ma (ci := ⟨f, [], false, true, []⟩) (main false)⟩
end Go.Px
end
section
namespace Go.Px
def cI (n : Nat) : CI := ⟨n, [], true, true, []⟩
def Vd (P : Program) (n : Nat) (c : Nat → List PV → Option (List PV)) : Prop := ∀ {E : Env} {M : Nat} (N : Nat), (∀ ls, E n [] ls = c N ls) → VV P E M (cI n)
def eL (l : List (Nat × (Nat → List PV → Option (List PV)))) (N : Nat) : Env := fun f fns ls => match l with
 | [] => none
 | p :: r => cond (Nat.beq f p.1 && AM fns []) (p.2 N ls) (eL r N f fns ls)
def oS (ks : List Nat) (t : ∀ O : Alg, Ags O → O.M) (env : Nat → Env) (N : Nat) (ls : List PV) : Option (List PV) := PN ks ls (t (std (env N) N) (xOf ls))
inductive Gs (P : Program) : List (Nat × (Nat → List PV → Option (List PV))) → Prop
 | nil : Gs P []
 | cons {n : Nat} {c : Nat → List PV → Option (List PV)} {l : List (Nat × (Nat → List PV → Option (List PV)))} (h : Vd P n c) (t : Gs P l) : Gs P ((n, c) :: l)
theorem g0 {P : Program} : Gs P [] := .nil
theorem gs {P : Program} {n : Nat} {c : Nat → List PV → Option (List PV)} {l : List (Nat × (Nat → List PV → Option (List PV)))} (h : Vd P n c) (t : Gs P l) : Gs P ((n, c) :: l) := .cons h t
def PA : List Nat → Bool
 | [] => true
 | n :: l => l.all (fun m => !Nat.beq m n) && PA l
theorem gA {l : List (Nat × (Nat → List PV → Option (List PV)))} {N : Nat} : ∀ {pre : List (Nat × (Nat → List PV → Option (List PV)))} {n : Nat} {c : Nat → List PV → Option (List PV)} {ls : List PV}, pre.all (fun p => !Nat.beq n p.1) = true → eL (pre ++ (n, c) :: l) N n [] ls = c N ls
 | [], n, c, ls, _ => by
  show cond (Nat.beq n n && true) (c N ls) _ = _
  rw [Nat.beq_refl]; rfl
 | p :: pre, n, c, ls, h => by
  rw [List.all_cons, Bool.and_eq_true] at h
  have h1 : Nat.beq n p.1 = false := by
   have := h.1
   simpa using this
  show cond (Nat.beq n p.1 && true) _ (eL (pre ++ (n, c) :: l) N n [] ls) = _
  rw [h1]
  exact gA h.2
theorem f6 {P : Program} {N : Nat} : ∀ {l : List (Nat × (Nat → List PV → Option (List PV)))} {pre : List (Nat × (Nat → List PV → Option (List PV)))}, Gs P l → (∀ p ∈ l, pre.all (fun q => !Nat.beq p.1 q.1) = true) → PA (l.map (·.1)) = true → ∀ ci ∈ l.map (fun p => cI p.1), VV P (eL (pre ++ l) N) N ci
 | [], _, _, _, _, ci, h => by cases h
 | (n, c) :: l, pre, .cons hv ht, hp, ha, ci, h => by
  rw [List.map_cons, List.mem_cons] at h
  rcases h with h | h
  ·subst h
   exact hv N (fun ls => gA (hp (n, c) (List.mem_cons_self ..)))
  ·simp only [List.map_cons, PA, Bool.and_eq_true] at ha
   have := f6 (N := N) (pre := pre ++ [(n, c)]) ht (fun p hm => by
    rw [List.all_append, hp p (List.mem_cons_of_mem _ hm), Bool.true_and]
    have h1 := List.all_eq_true.1 ha.1 p.1 (List.mem_map.2 ⟨p, hm, rfl⟩)
    simpa using h1) ha.2 ci h
   rw [List.append_assoc] at this
   exact this
theorem vti {P : Program} (hmix : P.follows .mixedOrders = true) (imm old : Bool) (ie : List Nat) {n : Nat} {c : Nat → List PV → Option (List PV)} (ks : List Nat) (t : ∀ O : Alg, Ags O → O.M) (l : List (Nat × (Nat → List PV → Option (List PV)))) (hg : Gs P l) (ha : PA (l.map (·.1)) = true)
    (hc : ∀ N ls, c N ls = PN ks ls (t (std (eL l N) N) (xOf ls)))
    (hx : ∀ (O : Alg) (x : Ags O), XF (O := O) P { gam := l.map (fun p => cI p.1), imm := imm, old := old, ie := ie } true true [] n [] (xr x ks 0) = t O x) : Vd P n c := fun N h =>
  B3 hmix (E := eL l N) (N := N) (cfg := { gam := l.map (fun p => cI p.1), imm := imm, old := old, ie := ie }) (ci := cI n) (f6 (pre := []) hg (fun _ _ => rfl) ha) (hc N) (fun ls => hx _ _) h
theorem vt {P : Program} (hmix : P.follows .mixedOrders = true) {n : Nat} {c : Nat → List PV → Option (List PV)} (ks : List Nat) (t : ∀ O : Alg, Ags O → O.M) (l : List (Nat × (Nat → List PV → Option (List PV)))) (hg : Gs P l) (ha : PA (l.map (·.1)) = true)
    (hc : ∀ N ls, c N ls = PN ks ls (t (std (eL l N) N) (xOf ls)))
    (hx : ∀ (O : Alg) (x : Ags O), XF (O := O) P { gam := l.map (fun p => cI p.1) } true true [] n [] (xr x ks 0) = t O x) : Vd P n c := vti hmix false false [] ks t l hg ha hc hx
theorem vE {P : Program} {n : Nat} {c : Nat → List PV → Option (List PV)} (v : Vd P n c) {E : Env} {M : Nat} (N : Nat) (h : ∀ ls, E n [] ls = c N ls) : VV P E M (cI n) := v N h
end Go.Px
end
section
namespace Go.Px
open Go.RowKit
theorem j9 {P : Program} {T : TypeId} {x : List TypeId} (hk : ∀ k, BN P (k + 1) T = some [T]) (hx : AK P T = some x) : x = [T] := by
 unfold AK at hx
 rw [show CF = 19 + 1 from rfl, hk] at hx
 simp only at hx
 split at hx
 ·cases hx; rfl
 ·cases hx
theorem kc {P : Program} {T : TypeId} (hk : ∀ k, BN P (k + 1) T = some [T]) : AK P T = none ∨ AK P T = some [T] := by
 cases hx : AK P T with
 | none => exact .inl rfl
 | some x => exact .inr (by rw [j9 hk hx])
end Go.Px
end
