/-
Px: ways that meet again: what a way out brings along, and how it comes back.
-/
import Derived.Test.YtopmcbahdgfleaaGreatPxDraw3
namespace Go.Px
set_option linter.unusedVariables false
set_option linter.unusedSimpArgs false

section
variable {E : Env} {N : Nat} {P : Program} {cfg : Cfg} {n0 n0' : Nz} {nt : Nat} {β β' : Nat → Option Nat} {σ σ' : Nat → Option (Nat × Nat)} {s s' s2 : St0 E N} {a : Act} {w w' : World}

/-- What is taken along: the names used before and behind, the sources of the new slices, what is frozen. -/
structure Enc (s : St0 E N) (keep used used' : List Nat) (os : List (Option Nat)) (fr : List (Nat × Option (HEnt (std E N)))) : Prop where
  up : ∀ n ∈ used, n ∈ used'
  src : ∀ n, some n ∈ os → n ∉ used ∧ n ∈ used' ∧ n ∉ keep ∧ ∃ h, s.getH n = some h ∧ h.frozen = false
  nd : (os.filterMap id).Nodup
  ok : FrOK s fr
  fz : ∀ y ∈ fr, ∃ h, s.getH y.1 = some h ∧ (h.frozen = true ∨ (y.1 ∉ used ∧ y.1 ∈ used' ∧ y.1 ∉ keep))
  ap : ∀ y ∈ fr, some y.1 ∉ os

theorem Enc.nil {keep used : List Nat} : Enc s keep used used [] [] :=
  ⟨fun _ h => h, fun _ h => by simp at h, List.nodup_nil, fun _ _ h => by simp at h, fun _ h => by simp at h, fun _ h => by simp at h⟩

theorem Enc.append {keep used u u' : List Nat} {os os' : List (Option Nat)} {fr fr' : List (Nat × Option (HEnt (std E N)))} (h : Enc s keep used u os fr) (k : Enc s keep u u' os' fr') :
    Enc s keep used u' (os ++ os') (fr ++ fr') where
  up n hn := k.up n (h.up n hn)
  src n hn := by
    rcases List.mem_append.1 hn with hn | hn
    · obtain ⟨a1, a2, a3⟩ := h.src n hn; exact ⟨a1, k.up n a2, a3⟩
    · obtain ⟨a1, a2, a3⟩ := k.src n hn; exact ⟨fun hm => a1 (h.up n hm), a2, a3⟩
  nd := by
    rw [List.filterMap_append]
    refine List.nodup_append.2 ⟨h.nd, k.nd, fun x hx y hy e => ?_⟩
    subst e
    have h1 : some x ∈ os := by simpa using hx
    have h2 : some x ∈ os' := by simpa using hy
    exact (k.src x h2).1 (h.src x h1).2.1
  ok := h.ok.append k.ok
  fz y hy := by
    rcases List.mem_append.1 hy with hy | hy
    · obtain ⟨e, a1, a2⟩ := h.fz y hy
      exact ⟨e, a1, a2.imp (fun h => h) (fun h => ⟨h.1, k.up _ h.2.1, h.2.2⟩)⟩
    · obtain ⟨e, a1, a2⟩ := k.fz y hy
      exact ⟨e, a1, a2.imp (fun h => h) (fun g => ⟨fun hm => g.1 (h.up _ hm), g.2⟩)⟩
  ap y hy hm := by
    rcases List.mem_append.1 hy with hy | hy <;> rcases List.mem_append.1 hm with hm | hm
    · exact h.ap y hy hm
    · obtain ⟨e, a1, a2⟩ := h.fz y hy
      obtain ⟨b1, b2, b3, e', b4, b5⟩ := k.src _ hm
      rw [a1] at b4; cases b4
      rcases a2 with a2 | a2
      · rw [a2] at b5; cases b5
      · exact b1 a2.2.1
    · obtain ⟨e, a1, a2⟩ := k.fz y hy
      obtain ⟨b1, b2, b3, e', b4, b5⟩ := h.src _ hm
      rw [a1] at b4; cases b4
      rcases a2 with a2 | a2
      · rw [a2] at b5; cases b5
      · exact a2.1 b2
    · exact k.ap y hy hm

/-- What a bound cell holds. -/
def Holds (cv : List PV) (j : Nat) (ls : List SLeaf) : Prop := ∀ (i : Nat) (l : SLeaf), ls[i]? = some l → cellAt cv (j + i) = l.pv
theorem Holds.left {cv : List PV} {j : Nat} {a b : List SLeaf} (h : Holds cv j (a ++ b)) : Holds cv j a := fun i l hl => h i l (by
  rw [List.getElem?_append_left (List.getElem?_eq_some_iff.1 hl).1]; exact hl)
theorem Holds.right {cv : List PV} {j : Nat} {a b : List SLeaf} (h : Holds cv j (a ++ b)) : Holds cv (j + a.length) b := fun i l hl => by
  have := h (a.length + i) l (by rw [List.getElem?_append_right (by omega)]; simpa using hl)
  rw [Nat.add_assoc]; exact this

abbrev DecC (E : Env) (N : Nat) (cv : List PV) (j q : Nat) (sc : SlotC) : AC0 E N × List (Nat × HEnt (std E N)) := decC (O := std E N) cv j q sc
abbrev DecCs (E : Env) (N : Nat) (cv : List PV) (j q : Nat) (scs : List SlotC) : List (AC0 E N) × List (Nat × HEnt (std E N)) := decCs (O := std E N) cv j q scs

theorem rep_toLf (m : Mem P n0 β σ s w) {c : AC0 E N} {v : Value} {t : TypeId} {r : Rows} {fr : List (Nat × Option (HEnt (std E N)))} {nw nw' : Bool} (hc : RelC P n0 β σ s w c v) (ht : rowKind (lkOf P t) c = true)
    {k' : Nat} (h : RM.run s (toLf (O := std E N) c) 0 = .ok ((.rows r, fr, nw), k')) (hn : nw' = true → nw = true) {sf : St0 E N} (hsub : Sub s sf) (hf : Frz sf fr) : Rep P w (StB n0 β σ sf nw') t v (.rows r) := by
  obtain ⟨_, _, h3⟩ := toLf_ok m hc h
  exact h3 t sf ht hsub (fun x hx h hh => by obtain ⟨h', e1, e2⟩ := hf x hx; rw [e1] at hh; cases hh; exact e2) (fun x hx => by obtain ⟨h', e1, _⟩ := hf x hx; exact ⟨h', e1⟩) nw' hn

theorem enc_cell (m : Mem P n0 β σ s w) {keep used u : List Nat} {sc : SlotC} {c : AC0 E N} {l : SLeaf} (h : encC (O := std E N) s keep used sc c = .ok (l, u)) {v : Value} (hc : RelC P n0 β σ s w c v)
    {cv : List PV} {j : Nat} (hl : cellAt cv j = l.pv) (q : Nat) :
    ∃ (os : List (Option Nat)) (fr : List (Nat × Option (HEnt (std E N)))), Enc s keep used u os fr ∧ Ents P s q os (DecC E N cv j q sc).2 ∧ (∀ p ∈ (DecC E N cv j q sc).2, p.2.dirty = true) ∧
      (∀ n ∈ (DecC E N cv j q sc).1.names, q ≤ n ∧ n < q + (DecC E N cv j q sc).2.length) ∧
      ∀ (sf : St0 E N), Sub s sf → Frz sf fr → ∀ (σ2 : Nat → Option (Nat × Nat)) (S : St0 E N), (∀ nw b, StB n0 β σ sf nw b → StB n0 β σ2 S nw b) → Wired σ σ2 S q os (DecC E N cv j q sc).2 → RelC P n0 β σ2 S w (DecC E N cv j q sc).1 v := by
  cases sc with
  | int k =>
    cases c <;> simp only [encC] at h <;> try cases h
    rename_i k' i
    split at h <;> cases h
    rename_i hk
    have := ikEq_iff.1 hk; subst this
    refine ⟨[], [], Enc.nil, trivial, fun p hp => by simp [DecC, decC] at hp, fun n hn => by simp [DecC, decC, AC.names] at hn, fun sf _ _ σ2 S _ _ => ?_⟩
    have hv : v = .int k i := hc
    show v = .int k (pvI (cellAt cv j))
    rw [hl]; exact hv
  | bool =>
    cases c <;> simp only [encC] at h <;> try cases h
    rename_i b
    refine ⟨[], [], Enc.nil, trivial, fun p hp => by simp [DecC, decC] at hp, fun n hn => by simp [DecC, decC, AC.names] at hn, fun sf _ _ σ2 S _ _ => ?_⟩
    have hv : v = .bool b := hc
    show v = .bool (pvB (cellAt cv j))
    rw [hl]; exact hv
  | str =>
    cases c <;> simp only [encC] at h <;> try cases h
    rename_i b
    refine ⟨[], [], Enc.nil, trivial, fun p hp => by simp [DecC, decC] at hp, fun n hn => by simp [DecC, decC, AC.names] at hn, fun sf _ _ σ2 S _ _ => ?_⟩
    have hv : v = .string b := hc
    show v = .string (pvS (cellAt cv j))
    rw [hl]; exact hv
  | own e nw =>
    have one : ∀ n ∈ (DecC E N cv j q (.own e nw)).1.names, q ≤ n ∧ n < q + (DecC E N cv j q (.own e nw)).2.length := fun n hn => by
      simp [DecC, decC, AC.names] at hn; subst hn; simp [DecC, decC]
    have dt : ∀ p ∈ (DecC E N cv j q (.own e nw)).2, p.2.dirty = true := fun p hp => by simp [DecC, decC] at hp; subst hp; rfl
    cases c <;> simp only [encC] at h <;> try cases h
    · rename_i e'
      split at h <;> cases h
      rename_i he
      have := natBeq_iff.1 he; subst this
      obtain ⟨t0, ts0, ht0, hts0, av, hv⟩ := hc
      have hl' : pvL (cellAt cv j) = [] := by rw [hl]; rfl
      refine ⟨[none], [], ⟨fun _ h => h, fun n hn => by simp at hn, List.nodup_nil, fun _ _ h => by simp at h, fun _ h => by simp at h, fun _ h => by simp at h⟩, ⟨rfl, rfl, ⟨hl', t0, ts0, ht0, hts0⟩, trivial⟩, dt, one, fun sf _ _ σ2 S _ hw => ⟨⟨_, _, _, hv⟩, fun h3 hh3 => ?_⟩⟩
      rw [hw.2.1] at hh3; cases hh3
      exact ⟨rfl, .inr ⟨hw.1, by show (pvL (cellAt cv j)).length = 0; rw [hl']; rfl, av, hv⟩⟩
    · rename_i e' id
      cases hh : s.getH id with
      | none => rw [hh] at h; cases h
      | some en =>
        rw [hh] at h
        simp only at h
        split at h <;> cases h
        rename_i hg
        simp only [Bool.and_eq_true, Bool.not_eq_true', Bool.or_eq_true] at hg
        obtain ⟨⟨⟨⟨⟨g1, g2⟩, g3⟩, g4⟩, g5⟩, g6⟩ := hg
        have e1 := natBeq_iff.1 g1
        have e2 := natBeq_iff.1 g2
        subst e1
        have nu : id ∉ used := fun hm => by rw [memN_iff.2 hm] at g5; cases g5
        have nk : id ∉ keep := fun hm => by rw [memN_iff.2 hm] at g6; cases g6
        have hl' : pvL (cellAt cv j) = en.l := by rw [hl]; rfl
        refine ⟨[some id], [], ⟨fun _ h => List.mem_cons_of_mem _ h, fun n hn => ?_, by simp, fun _ _ h => by simp at h, fun _ h => by simp at h, fun _ h => by simp at h⟩, ⟨rfl, rfl, ⟨en, hh, e2, hl', g3, fun h => ?_⟩, trivial⟩, dt, one, fun sf _ _ σ2 S _ hw => ?_⟩
        · simp at hn; subst hn
          exact ⟨nu, List.mem_cons_self, nk, en, hh, g3⟩
        · have h' : nw = true := h
          rcases g4 with g4 | g4
          · exact g4
          · rw [h'] at g4; cases g4
        · exact own_wired (h' := { e := e, frozen := false, nw := nw, l := pvL (cellAt cv j), dirty := true }) hc hh e2 hl' hw.1 hw.2.1
  | imm e nw =>
    have one : ∀ n ∈ (DecC E N cv j q (.imm e nw)).1.names, q ≤ n ∧ n < q + (DecC E N cv j q (.imm e nw)).2.length := fun n hn => by
      simp [DecC, decC, AC.names] at hn
    have dt : ∀ p ∈ (DecC E N cv j q (.imm e nw)).2, p.2.dirty = true := fun p hp => by simp [DecC, decC] at hp
    cases c <;> simp only [encC] at h <;> try cases h
    · rename_i e'
      split at h <;> cases h
      rename_i he
      have := natBeq_iff.1 he; subst this
      have hl' : pvL (cellAt cv j) = [] := by rw [hl]; rfl
      refine ⟨[], [], Enc.nil, trivial, dt, one, fun sf hsub hf σ2 S hst _ => ?_⟩
      have hc0 := hc
      obtain ⟨t0, ts0, ht0, hts0, av, hv⟩ := hc0
      refine ⟨t0, ht0, ?_⟩
      show Rep P w _ t0 v (.rows (pvL (cellAt cv j)))
      rw [hl']
      exact (rep_toLf m (nw' := nw) hc (t := t0) (by rw [ht0]; exact he) rfl (fun _ => rfl) hsub hf).st (hst nw)
    · rename_i e' nw' r
      split at h <;> cases h
      rename_i hg
      simp only [Bool.and_eq_true, Bool.not_eq_true', Bool.or_eq_true] at hg
      have := natBeq_iff.1 hg.1; subst this
      have hl' : pvL (cellAt cv j) = r := by rw [hl]; rfl
      refine ⟨[], [], Enc.nil, trivial, dt, one, fun sf hsub hf σ2 S hst _ => ?_⟩
      have hc0 := hc
      obtain ⟨t0, ht0, hv⟩ := hc0
      refine ⟨t0, ht0, ?_⟩
      show Rep P w _ t0 v (.rows (pvL (cellAt cv j)))
      rw [hl']
      exact (rep_toLf m (nw' := nw) hc (t := t0) (by rw [ht0]; exact hg.1) rfl (fun h => by
        rcases hg.2 with h1 | h1
        · exact h1
        · rw [h] at h1; cases h1) hsub hf).st (hst nw)
    · rename_i e' id
      cases hh : s.getH id with
      | none => rw [hh] at h; cases h
      | some en =>
        rw [hh] at h
        simp only at h
        split at h <;> cases h
        rename_i hg
        simp only [Bool.and_eq_true, Bool.not_eq_true', Bool.or_eq_true] at hg
        obtain ⟨⟨⟨⟨g1, g2⟩, g3⟩, g4⟩, g5⟩ := hg
        have e1 := natBeq_iff.1 g1
        have e2 := natBeq_iff.1 g2
        subst e1
        have nu : id ∉ used := fun hm => by rw [memN_iff.2 hm] at g5; cases g5
        have hl' : pvL (cellAt cv j) = en.l := by rw [hl]; rfl
        refine ⟨[], [(id, some { en with frozen := true, dirty := true })], ⟨fun n hn => ?_, fun n hn => by simp at hn, List.nodup_nil, fun n v hm => ?_, fun y hy => ?_, fun y hy => by simp⟩, trivial, dt, one, fun sf hsub hf σ2 S hst _ => ?_⟩
        · cases en.frozen with
          | true => exact hn
          | false => exact List.mem_cons_of_mem _ hn
        · simp at hm; obtain ⟨rfl, rfl⟩ := hm; exact ⟨en, hh, rfl⟩
        · simp at hy; subst hy
          refine ⟨en, hh, ?_⟩
          cases hz : en.frozen with
          | true => exact .inl rfl
          | false =>
            refine .inr ⟨nu, List.mem_cons_self, fun hm => ?_⟩
            rw [hz, memN_iff.2 hm] at g4
            simp at g4
        · obtain ⟨t0, ts0, ht0, _⟩ := m.H id en hh
          refine ⟨t0, by rw [ht0, ← e2], ?_⟩
          show Rep P w _ t0 v (.rows (pvL (cellAt cv j)))
          rw [hl']
          exact (rep_toLf m (nw' := nw) (nw := en.nw) (fr := [(id, some { en with frozen := true, dirty := true })]) hc (t := t0) (by rw [ht0]; exact natBeq_iff.2 e2.symm) (by
            show RM.run s (RM.h id _) 0 = _
            simp only [RM.run]
            rw [hh]; rfl) (fun h => by
            rcases g3 with h1 | h1
            · exact h1
            · rw [h] at h1; cases h1) hsub hf).st (hst nw)

end
end Go.Px
