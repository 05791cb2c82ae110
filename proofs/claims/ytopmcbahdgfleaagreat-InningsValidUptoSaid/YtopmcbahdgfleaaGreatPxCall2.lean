/-
Px: calls by contract.
-/
import Derived.Test.YtopmcbahdgfleaaGreatPxCall
namespace Go.Px
set_option linter.unusedVariables false
set_option linter.unusedSimpArgs false

section
variable {E : Env} {N : Nat} {P : Program} {n0 n0' : Nz} {nt : Nat} {β β' : Nat → Option Nat} {σ σ' : Nat → Option (Nat × Nat)} {s s' : St0 E N} {a : Act} {w w' : World}

/-- Names in a row. -/
def Row : Nat → List (Nat × HEnt (std E N)) → Prop
  | _, [] => True
  | q, (k, h) :: r => k = q ∧ Row (q + 1) r

theorem Row.append : ∀ {q : Nat} {r r' : List (Nat × HEnt (std E N))}, Row q r → Row (q + r.length) r' → Row q (r ++ r')
  | _, [], _, _, h => by simpa using h
  | q, (k, h') :: r, _, h, h2 => ⟨h.1, Row.append h.2 (by simpa [Nat.add_assoc, Nat.add_comm 1] using h2)⟩

theorem Row.mem : ∀ {q : Nat} {r : List (Nat × HEnt (std E N))}, Row q r → ∀ p ∈ r, q ≤ p.1 ∧ p.1 < q + r.length
  | q, (k, h') :: r, h, p, hp => by
    rcases List.mem_cons.1 hp with rfl | hp
    · have := h.1; subst this; simp
    · have := Row.mem h.2 p hp; simp; omega

theorem Row.get : ∀ {q : Nat} {r : List (Nat × HEnt (std E N))}, Row q r → ∀ {n : Nat} {h : HEnt (std E N)}, alGet r n = some h → (n, h) ∈ r
  | q, (k, h') :: r, hr, n, h, hg => by
    simp only [alGet] at hg
    split at hg
    · rename_i e; have := natBeq_iff.1 e; subst this; cases hg; exact List.mem_cons_self
    · exact List.mem_cons_of_mem _ (Row.get hr.2 hg)

theorem Row.has : ∀ {q : Nat} {r : List (Nat × HEnt (std E N))}, Row q r → ∀ {n : Nat} {h : HEnt (std E N)}, (n, h) ∈ r → alGet r n = some h
  | q, (k, h') :: r, hr, n, h, hg => by
    simp only [alGet]
    rcases List.mem_cons.1 hg with e | hg
    · cases e; rw [natBeq_iff.2 rfl]
    · have h1 := Row.mem hr.2 _ hg
      have h2 := hr.1
      have : Nat.beq k n = false := by
        cases hb : Nat.beq k n with
        | false => rfl
        | true => have := natBeq_iff.1 hb; simp at h1; omega
      rw [this]; exact Row.has hr.2 hg

theorem Row.at : ∀ {q : Nat} {r : List (Nat × HEnt (std E N))}, Row q r → ∀ {n : Nat}, q ≤ n → n < q + r.length → ∃ h, (n, h) ∈ r
  | q, [], _, n, h1, h2 => by simp at h2; omega
  | q, (k, h') :: r, hr, n, h1, h2 => by
    by_cases h : n = q
    · exact ⟨h', by rw [h, ← hr.1]; exact List.mem_cons_self⟩
    · obtain ⟨h3, h4⟩ := Row.at hr.2 (n := n) (by omega) (by simp at h2; omega)
      exact ⟨h3, List.mem_cons_of_mem _ h4⟩

theorem Ents.row : ∀ {q : Nat} {os : List (Option Nat)} {r : List (Nat × HEnt (std E N))}, Ents P s q os r → Row q r
  | _, [], [], _ => trivial
  | _, _ :: _, (_, _) :: _, h => ⟨h.1, Ents.row h.2.2.2⟩
  | _, [], _ :: _, h => h.elim
  | _, _ :: _, [], h => h.elim

theorem Ents.find : ∀ {q : Nat} {os : List (Option Nat)} {r : List (Nat × HEnt (std E N))}, Ents P s q os r → ∀ {n : Nat} {h : HEnt (std E N)}, (n, h) ∈ r → ∃ i o, n = q + i ∧ os[i]? = some o ∧ Gent P s h o ∧ h.frozen = false
  | q, o :: os, (k, h') :: r, he, n, h, hm => by
    rcases List.mem_cons.1 hm with e | hm
    · cases e; exact ⟨0, o, he.1, rfl, he.2.2.1, he.2.1⟩
    · obtain ⟨i, o', h1, h2, h3⟩ := Ents.find he.2.2.2 hm
      exact ⟨i + 1, o', by omega, h2, h3⟩
  | _, [], _ :: _, h, _, _, _ => h.elim

theorem wired_of {σc : Nat → Option (Nat × Nat)} {s0 : St0 E N} : ∀ {q : Nat} {os : List (Option Nat)} {r : List (Nat × HEnt (std E N))},
    (∀ i o p, os[i]? = some o → r[i]? = some p → σc (q + i) = o.bind σ ∧ s0.getH (q + i) = some p.2) → Wired σ σc s0 q os r
  | q, o :: os, (k, h') :: r, h => ⟨(h 0 o _ rfl rfl).1, (h 0 o _ rfl rfl).2, wired_of (fun i o' p h1 h2 => by
      have := h (i + 1) o' p (by simpa using h1) (by simpa using h2)
      rw [show q + 1 + i = q + (i + 1) by omega]; exact this)⟩
  | _, [], _, _ => by unfold Wired; trivial
  | _, _ :: _, [], _ => by unfold Wired; trivial

theorem Row.idx : ∀ {q : Nat} {r : List (Nat × HEnt (std E N))}, Row q r → ∀ {i : Nat} {p : Nat × HEnt (std E N)}, r[i]? = some p → p.1 = q + i
  | q, (k, h') :: r, hr, 0, p, h => by simp at h; subst h; exact hr.1
  | q, (k, h') :: r, hr, i + 1, p, h => by have := Row.idx hr.2 (i := i) (by simpa using h); omega

theorem nodup_idx : ∀ {os : List (Option Nat)} {i j x : Nat}, (os.filterMap id).Nodup → os[i]? = some (some x) → os[j]? = some (some x) → i = j
  | o :: os, i, j, x, hn, hi, hj => by
    have mem : ∀ {k : Nat}, os[k]? = some (some x) → x ∈ os.filterMap id := fun {k} h => by
      simp only [List.mem_filterMap]
      exact ⟨some x, List.mem_of_getElem? h, rfl⟩
    cases o with
    | none =>
      have hn' : (os.filterMap id).Nodup := by simpa using hn
      cases i with
      | zero => simp at hi
      | succ i => cases j with
        | zero => simp at hj
        | succ j => rw [nodup_idx hn' (i := i) (j := j) (by simpa using hi) (by simpa using hj)]
    | some y =>
      have hn' : (y :: os.filterMap id).Nodup := by simpa using hn
      obtain ⟨h1, h2⟩ := List.nodup_cons.1 hn'
      cases i with
      | zero => cases j with
        | zero => rfl
        | succ j => simp at hi hj; subst hi; exact (h1 (mem hj)).elim
      | succ i => cases j with
        | zero => simp at hi hj; subst hj; exact (h1 (mem hi)).elim
        | succ j => rw [nodup_idx h2 (i := i) (j := j) (by simpa using hi) (by simpa using hj)]

/-- Cells of a bound result. -/
def OkC (q len : Nat) (nw : Bool) : AC0 E N → Prop
  | .int _ _ | .bool _ | .str _ => True
  | .imm _ n _ => n = nw
  | .own _ k => q ≤ k ∧ k < q + len
  | _ => False

theorem OkC.wide {q len q' len' : Nat} {nw : Bool} {c : AC0 E N} (h : OkC q len nw c) (h1 : q' ≤ q) (h2 : q + len ≤ q' + len') : OkC q' len' nw c := by
  cases c <;> first | exact h | (obtain ⟨a, b⟩ := h; exact ⟨by omega, by omega⟩)

/-- Entries of a bound result. -/
def OkH (nw : Bool) (hs : List (Nat × HEnt (std E N))) : Prop := ∀ p ∈ hs, p.2.nw = nw ∧ p.2.frozen = false ∧ p.2.dirty = true

theorem boundCells_ok {own nw : Bool} {c : List PV} : ∀ {ts : List TypeId} {j q : Nat} {cs : List (AC0 E N)} {hs : List (Nat × HEnt (std E N))}, boundCells (O := std E N) P own nw c j q ts = some (cs, hs) →
    Row q hs ∧ OkH nw hs ∧ ∀ x ∈ cs, OkC q hs.length nw x
  | [], j, q, cs, hs, h => by
    simp only [boundCells] at h; cases h
    exact ⟨trivial, fun p hp => by simp at hp, fun x hx => by simp at hx⟩
  | t :: ts, j, q, cs, hs, h => by
    have plain : ∀ (x : AC0 E N), (∀ len, OkC q len nw x) → (boundCells (O := std E N) P own nw c (j + 1) q ts).map (fun p => (x :: p.1, p.2)) = some (cs, hs) → Row q hs ∧ OkH nw hs ∧ ∀ x ∈ cs, OkC q hs.length nw x := fun x hx h => by
      obtain ⟨⟨r, hh⟩, h1, h2⟩ := Option.map_eq_some_iff.1 h
      cases h2
      obtain ⟨a1, a2, a3⟩ := boundCells_ok h1
      exact ⟨a1, a2, fun y hy => (List.mem_cons.1 hy).elim (fun e => e ▸ hx _) (a3 y)⟩
    simp only [boundCells] at h
    split at h
    · exact plain (.int _ _) (fun _ => trivial) h
    · exact plain (.bool _) (fun _ => trivial) h
    · exact plain (.str _) (fun _ => trivial) h
    · split at h
      · obtain ⟨⟨r, hh⟩, h1, h2⟩ := Option.map_eq_some_iff.1 h
        cases h2
        obtain ⟨a1, a2, a3⟩ := boundCells_ok h1
        refine ⟨⟨rfl, a1⟩, fun p hp => ?_, fun y hy => ?_⟩
        · rcases List.mem_cons.1 hp with rfl | hp
          · exact ⟨rfl, rfl, rfl⟩
          · exact a2 p hp
        · rcases List.mem_cons.1 hy with rfl | hy
          · exact ⟨Nat.le_refl _, by simp⟩
          · exact (a3 y hy).wide (by omega) (by simp; omega)
      · exact plain (.imm _ nw _) (fun _ => rfl) h
    · cases h

theorem boundVals_ok {own nw : Bool} {c : List PV} : ∀ {ts : List TypeId} {j q : Nat} {vs : List (Val (std E N))} {hs : List (Nat × HEnt (std E N))}, boundVals (O := std E N) P own nw c j q ts = some (vs, hs) →
    Row q hs ∧ OkH nw hs ∧ ∀ v ∈ vs, ∀ x ∈ v.cs, OkC q hs.length nw x
  | [], j, q, vs, hs, h => by
    simp only [boundVals] at h; cases h
    exact ⟨trivial, fun p hp => by simp at hp, fun x hx => by simp at hx⟩
  | t :: ts, j, q, vs, hs, h => by
    simp only [boundVals] at h
    split at h
    · cases h
    · split at h
      · cases h
      · rename_i cs h1 hc
        split at h
        · cases h
        · rename_i vs2 h2 hv
          cases h
          obtain ⟨a1, a2, a3⟩ := boundCells_ok hc
          obtain ⟨b1, b2, b3⟩ := boundVals_ok hv
          refine ⟨a1.append b1, fun p hp => (List.mem_append.1 hp).elim (a2 p) (b2 p), fun v hv x hx => ?_⟩
          rcases List.mem_cons.1 hv with rfl | hv
          · exact (a3 x hx).wide (Nat.le_refl _) (by simp)
          · exact (b3 v hv x hx).wide (by omega) (by simp; omega)

theorem noneIn_spec {u : List Nat} : ∀ {fr : List (Nat × Option (HEnt (std E N)))}, noneIn u fr = true → ∀ x ∈ fr, x.1 ∉ u
  | [], _, x, hx => by simp at hx
  | (n, v) :: r, h, x, hx => by
    simp only [noneIn, Bool.and_eq_true, Bool.not_eq_true'] at h
    rcases List.mem_cons.1 hx with rfl | hx
    · intro hm; have := memN_iff.2 hm; rw [this] at h; cases h.1
    · exact noneIn_spec h.2 x hx

end
end Go.Px
