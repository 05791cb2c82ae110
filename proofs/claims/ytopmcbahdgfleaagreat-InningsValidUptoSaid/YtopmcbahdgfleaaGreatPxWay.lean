/-
Px: masks, and ways out of a piece of code.
-/
import Derived.Test.YtopmcbahdgfleaaGreatPxJoin2
namespace Go.Px
set_option linter.unusedVariables false
set_option linter.unusedSimpArgs false

/-! ### Masks -/

def Ms.le (a b : Ms) : Prop := ∀ n, (a.t.testBit n = true → b.t.testBit n = true) ∧ (a.r.testBit n = true → b.r.testBit n = true)
theorem Ms.le_refl (a : Ms) : a.le a := fun _ => ⟨id, id⟩
theorem Ms.le_trans {a b c : Ms} (h : a.le b) (k : b.le c) : a.le c := fun n => ⟨fun x => (k n).1 ((h n).1 x), fun x => (k n).2 ((h n).2 x)⟩
theorem Ms.le_or_left (a b : Ms) : a.le (a.or b) := fun n => ⟨fun h => by simp [Ms.or, Nat.testBit_or, h], fun h => by simp [Ms.or, Nat.testBit_or, h]⟩
theorem Ms.le_or_right (a b : Ms) : b.le (a.or b) := fun n => ⟨fun h => by simp [Ms.or, Nat.testBit_or, h], fun h => by simp [Ms.or, Nat.testBit_or, h]⟩
theorem Ms.or_le {a b c : Ms} (h : a.le c) (k : b.le c) : (a.or b).le c := fun n => by
  simp only [Ms.or, Nat.testBit_or, Bool.or_eq_true]
  exact ⟨fun x => x.elim (h n).1 (k n).1, fun x => x.elim (h n).2 (k n).2⟩

def An.at (a : An) : Ex → Option Ms
  | .nrm => a.nrm
  | .ret => a.ret
  | .ext id => extsGet a.exts id

/-- A mask that is at least so wide. -/
def Wide (o : Option Ms) (m : Ms) : Prop := ∃ m2, o = some m2 ∧ m.le m2
theorem Wide.of {o : Option Ms} {m m' : Ms} (h : o = some m') (k : m.le m') : Wide o m := ⟨m', h, k⟩
theorem Wide.orL {o p : Option Ms} {m : Ms} (h : Wide o m) : Wide (orMs o p) m := by
  obtain ⟨m2, rfl, h⟩ := h
  cases p with
  | none => exact ⟨m2, rfl, h⟩
  | some q => exact ⟨m2.or q, rfl, Ms.le_trans h (Ms.le_or_left _ _)⟩
theorem Wide.orR {o p : Option Ms} {m : Ms} (h : Wide p m) : Wide (orMs o p) m := by
  obtain ⟨m2, rfl, h⟩ := h
  cases o with
  | none => exact ⟨m2, rfl, h⟩
  | some q => exact ⟨q.or m2, rfl, Ms.le_trans h (Ms.le_or_right _ _)⟩
theorem Wide.then {m1 : Ms} {o : Option Ms} {m : Ms} (h : Wide o m) : Wide (thenMs m1 o) (m1.or m) := by
  obtain ⟨m2, rfl, h⟩ := h
  exact ⟨m1.or m2, rfl, Ms.or_le (Ms.le_or_left _ _) (Ms.le_trans h (Ms.le_or_right _ _))⟩

theorem extsGet_del {l : List (Nat × Ms)} {k j : Nat} : extsGet (extsDel l k) j = if j = k then none else extsGet l j := by
  induction l with
  | nil => simp [extsDel, extsGet]
  | cons x l ih =>
    obtain ⟨i, m⟩ := x
    simp only [extsDel]
    cases h : Nat.beq i k with
    | true =>
      have := natBeq_iff.1 h; subst this
      simp only [ih, extsGet]
      by_cases hj : j = i
      · simp [hj]
      · rw [if_neg hj, if_neg hj, natBeq_false.2 (fun e => hj e.symm)]
    | false =>
      have hik := natBeq_false.1 h
      simp only [extsGet, ih]
      cases h2 : Nat.beq i j with
      | true =>
        have := natBeq_iff.1 h2; subst this
        simp [hik]
      | false => rfl

theorem Wide.add {l : List (Nat × Ms)} {k j : Nat} {m x : Ms} (h : Wide (extsGet l j) m) : Wide (extsGet (extsAdd l k x) j) m := by
  unfold extsAdd
  split
  · rename_i m' hm'
    simp only [extsGet]
    split
    · rename_i he
      have := natBeq_iff.1 he; subst this
      obtain ⟨m2, h1, h2⟩ := h
      rw [hm'] at h1; cases h1
      exact ⟨_, rfl, Ms.le_trans h2 (Ms.le_or_left _ _)⟩
    · rename_i he
      rw [extsGet_del, if_neg (fun e => natBeq_false.1 he e.symm)]; exact h
  · rename_i hn
    simp only [extsGet]
    split
    · rename_i he
      have := natBeq_iff.1 he; subst this
      obtain ⟨m2, h1, h2⟩ := h
      rw [hn] at h1; cases h1
    · exact h
theorem wide_added {l : List (Nat × Ms)} {k : Nat} {x : Ms} : Wide (extsGet (extsAdd l k x) k) x := by
  unfold extsAdd
  split
  · simp only [extsGet, natBeq_iff.2 rfl]; exact ⟨_, rfl, Ms.le_or_right _ _⟩
  · simp only [extsGet, natBeq_iff.2 rfl]; exact ⟨_, rfl, Ms.le_refl _⟩
theorem Wide.allR {j : Nat} {m : Ms} : ∀ {l r : List (Nat × Ms)}, Wide (extsGet r j) m → Wide (extsGet (extsAll l r) j) m
  | [], r, h => h
  | (k, x) :: l, r, h => Wide.allR (l := l) h.add
theorem Wide.allL {j : Nat} {m : Ms} : ∀ {l r : List (Nat × Ms)}, Wide (extsGet l j) m → Wide (extsGet (extsAll l r) j) m
  | [], r, h => by obtain ⟨m2, h1, _⟩ := h; simp [extsGet] at h1
  | (k, x) :: l, r, h => by
    simp only [extsGet] at h
    simp only [extsAll]
    split at h
    · rename_i he
      have := natBeq_iff.1 he; subst this
      obtain ⟨m2, h1, h2⟩ := h
      cases h1
      refine Wide.allR ?_
      obtain ⟨m3, h3, h4⟩ := wide_added (l := r) (k := k) (x := x)
      exact ⟨m3, h3, Ms.le_trans h2 h4⟩
    · exact Wide.allL (l := l) h
theorem Wide.map {j : Nat} {m m1 : Ms} {l : List (Nat × Ms)} (h : Wide (extsGet l j) m) : Wide (extsGet (l.map fun (k, x) => (k, m1.or x)) j) (m1.or m) := by
  induction l with
  | nil => obtain ⟨m2, h1, _⟩ := h; simp [extsGet] at h1
  | cons x l ih =>
    obtain ⟨k, x⟩ := x
    simp only [List.map_cons, extsGet] at h ⊢
    split at h
    · rename_i he
      obtain ⟨m2, h1, h2⟩ := h
      cases h1
      exact ⟨_, rfl, Ms.or_le (Ms.le_or_left _ _) (Ms.le_trans h2 (Ms.le_or_right _ _))⟩
    · rename_i he
      exact ih h

theorem testBit_dsts : ∀ {l : List Oper} {n : Nat}, n ∈ dstList l → (dstsOps l).testBit n = true
  | [], n, h => by simp [dstList] at h
  | o :: l, n, h => by
    simp only [dstList] at h
    simp only [dstsOps, Nat.testBit_or, Bool.or_eq_true]
    cases hd : o.dst with
    | none => rw [hd] at h; exact .inr (testBit_dsts h)
    | some d =>
      rw [hd] at h
      rcases List.mem_cons.1 h with rfl | h
      · exact .inl (testBit_bitOf.2 rfl)
      · exact .inr (testBit_dsts h)

theorem mem_bitsOf {m n : Nat} : ∀ {k : Nat} {acc : List Nat}, n ∈ bitsOf m k acc ↔ n ∈ acc ∨ (m.testBit n = true ∧ n ≤ k)
  | 0, acc => by
    simp only [bitsOf]
    cases h : m.testBit 0 with
    | true =>
      simp only [List.mem_cons]
      constructor
      · rintro (rfl | h1)
        · exact .inr ⟨h, Nat.le_refl _⟩
        · exact .inl h1
      · rintro (h1 | ⟨h1, h2⟩)
        · exact .inr h1
        · exact .inl (by omega)
    | false =>
      constructor
      · exact .inl
      · rintro (h1 | ⟨h1, h2⟩)
        · exact h1
        · have : n = 0 := by omega
          subst this; rw [h] at h1; cases h1
  | k + 1, acc => by
    simp only [bitsOf]
    rw [mem_bitsOf]
    cases h : m.testBit (k + 1) with
    | true =>
      simp only [List.mem_cons]
      constructor
      · rintro ((rfl | h1) | ⟨h1, h2⟩)
        · exact .inr ⟨h, Nat.le_refl _⟩
        · exact .inl h1
        · exact .inr ⟨h1, by omega⟩
      · rintro (h1 | ⟨h1, h2⟩)
        · exact .inl (.inr h1)
        · by_cases e : n = k + 1
          · exact .inl (.inl e)
          · exact .inr ⟨h1, by omega⟩
    | false =>
      constructor
      · rintro (h1 | ⟨h1, h2⟩)
        · exact .inl h1
        · exact .inr ⟨h1, by omega⟩
      · rintro (h1 | ⟨h1, h2⟩)
        · exact .inl h1
        · by_cases e : n = k + 1
          · subst e; rw [h] at h1; cases h1
          · exact .inr ⟨h1, by omega⟩

theorem testBit_le_log2 {m n : Nat} (h : m.testBit n = true) : n ≤ m.log2 := by
  have h1 := Nat.ge_two_pow_of_testBit h
  have hm : m ≠ 0 := by rintro rfl; simp at h
  rcases Nat.lt_or_ge m.log2 n with h2 | h2
  · exfalso
    have h3 := (Nat.log2_lt hm).1 h2
    omega
  · exact h2
theorem mem_bits {m n : Nat} : n ∈ bitsOf m (maskTop m) [] ↔ m.testBit n = true := by
  rw [mem_bitsOf]
  constructor
  · rintro (h | ⟨h, _⟩)
    · simp at h
    · exact h
  · intro h; exact .inr ⟨h, testBit_le_log2 h⟩

section
variable {E : Env} {N : Nat} {P : Program} {cfg : Cfg} {n0 n0' : Nz} {nt : Nat} {β β' : Nat → Option Nat} {σ σ' : Nat → Option (Nat × Nat)} {s s' s2 : St0 E N} {a a' : Act} {w w' : World}

theorem dropT_get : ∀ {l : List Nat} {t : TM (TV (std E N))} {n : Nat} {tv : TV (std E N)}, getTM (dropT t l) n = some tv → getTM t n = some tv ∧ n ∉ l
  | [], t, n, tv, h => ⟨h, by simp⟩
  | k :: l, t, n, tv, h => by
    simp only [dropT] at h
    obtain ⟨h1, h2⟩ := dropT_get h
    rw [getTM_setTM] at h1
    split at h1
    · cases h1
    · rename_i hk
      refine ⟨h1, fun hm => ?_⟩
      rcases List.mem_cons.1 hm with rfl | hm
      · by_cases hb : n < tmMax
        · exact hk ⟨rfl, hb⟩
        · have : getTM t n = none := by
            unfold getTM
            cases hx : Nat.blt n tmMax with
            | false => rfl
            | true => exact (hb (natBlt_iff.1 hx)).elim
          rw [this] at h1; cases h1
      · exact h2 hm

theorem keepB_get {l : List Nat} {n : Nat} {e : BEnt (std E N)} : alGet (keepB s l) n = some e ↔ s.getB n = some e ∧ n ∉ l := by
  unfold keepB
  have := alGet_filter (fun n => !memN n l) s.bx n
  rw [this]
  cases h : memN n l with
  | true => have := memN_iff.1 h; simp [this]
  | false =>
    have : n ∉ l := fun hm => by rw [memN_iff.2 hm] at h; cases h
    simp [this, State.getB]
theorem keepH_get {l : List Nat} {n : Nat} {e : HEnt (std E N)} : alGet (keepH s l) n = some e ↔ s.getH n = some e ∧ n ∉ l := by
  unfold keepH
  have := alGet_filter (fun n => !memN n l) s.hp n
  rw [this]
  cases h : memN n l with
  | true => have := memN_iff.1 h; simp [this]
  | false =>
    have : n ∉ l := fun hm => by rw [memN_iff.2 hm] at h; cases h
    simp [this, State.getH]

theorem checkB_get : ∀ {l : List (Nat × BEnt (std E N))}, checkB s l = true → ∀ {n : Nat} {e : BEnt (std E N)}, alGet l n = some e → ∃ e', s.getB n = some e' ∧ e'.dirty = false
  | [], _, n, e, h => by simp [alGet] at h
  | (k, x) :: l, hc, n, e, h => by
    simp only [checkB] at hc
    split at hc
    · rename_i e' he'
      split at hc
      · cases hc
      · rename_i hd
        simp only [alGet] at h
        split at h
        · rename_i hk
          have := natBeq_iff.1 hk; subst this
          exact ⟨e', he', hd⟩
        · exact checkB_get hc h
    · cases hc
theorem checkH_get : ∀ {l : List (Nat × HEnt (std E N))}, checkH s l = true → ∀ {n : Nat} {e : HEnt (std E N)}, alGet l n = some e → ∃ e', s.getH n = some e' ∧ e'.dirty = false
  | [], _, n, e, h => by simp [alGet] at h
  | (k, x) :: l, hc, n, e, h => by
    simp only [checkH] at hc
    split at hc
    · rename_i e' he'
      split at hc
      · cases hc
      · rename_i hd
        simp only [alGet] at h
        split at h
        · rename_i hk
          have := natBeq_iff.1 hk; subst this
          exact ⟨e', he', hd⟩
        · exact checkH_get hc h
    · cases hc

theorem boxSlots_mem : ∀ {l seen : List Nat} {sl : List Slot}, boxSlots cfg s l seen = some sl → (∀ b c, Slot.b b c ∈ sl → b ∈ l ∧ ∃ e, s.getB b = some e) ∧ ∀ x ∈ sl, ∃ b c, x = Slot.b b c
  | [], seen, sl, h => by simp only [boxSlots] at h; cases h; exact ⟨fun b c h => by simp at h, fun x h => by simp at h⟩
  | k :: l, seen, sl, h => by
    simp only [boxSlots] at h
    split at h
    · obtain ⟨h1, h2⟩ := boxSlots_mem h
      exact ⟨fun b c hm => ⟨List.mem_cons_of_mem _ (h1 b c hm).1, (h1 b c hm).2⟩, h2⟩
    · split at h
      · obtain ⟨h1, h2⟩ := boxSlots_mem h
        exact ⟨fun b c hm => ⟨List.mem_cons_of_mem _ (h1 b c hm).1, (h1 b c hm).2⟩, h2⟩
      · rename_i e he
        split at h
        · rename_i cs r hc hr
          cases h
          obtain ⟨h1, h2⟩ := boxSlots_mem hr
          refine ⟨fun b c hm => ?_, fun x hx => ?_⟩
          · rcases List.mem_cons.1 hm with e1 | hm
            · cases e1; exact ⟨List.mem_cons_self, e, he⟩
            · exact ⟨List.mem_cons_of_mem _ (h1 b c hm).1, (h1 b c hm).2⟩
          · rcases List.mem_cons.1 hx with rfl | hx
            · exact ⟨k, cs, rfl⟩
            · exact h2 x hx
        · cases h

theorem tmpSlots_mem : ∀ {l : List Nat} {b : Nat} {c : List SlotC}, Slot.b b c ∉ tmpSlots cfg s l
  | [], b, c, h => by simp [tmpSlots] at h
  | n :: l, b, c, h => by
    simp only [tmpSlots] at h
    split at h
    · split at h
      · rcases List.mem_cons.1 h with e | h
        · cases e
        · exact tmpSlots_mem h
      · exact tmpSlots_mem h
    · exact tmpSlots_mem h

theorem mem_touched {m : Ms} {b : Nat} : b ∈ touched s m ↔ ∃ n, m.r.testBit n = true ∧ b ∈ boxesOf s n := by
  unfold touched rootsIn
  simp only [List.mem_flatten, List.mem_map]
  constructor
  · rintro ⟨l, ⟨n, hn, rfl⟩, hb⟩; exact ⟨n, mem_bits.1 hn, hb⟩
  · rintro ⟨n, hn, hb⟩; exact ⟨_, ⟨n, mem_bits.2 hn, rfl⟩, hb⟩
theorem touched_mono {m m' : Ms} (h : m.le m') {b : Nat} (hb : b ∈ touched s m) : b ∈ touched s m' := by
  obtain ⟨n, h1, h2⟩ := mem_touched.1 hb
  exact mem_touched.2 ⟨n, (h n).2 h1, h2⟩

/-- What a way is. -/
theorem wayOf_ok {e : Ex} {m : Ms} {live : Nat} {x : Way (std E N)} (h : wayOf cfg s e m live = .ok x) : x.e = e ∧ x.base.st = s.st ∧ x.base.bx = keepB s (touched s m) ∧ x.base.hp = keepH s (lostH s m) ∧
    (∀ n tv, x.base.getT n = some tv → s.getT n = some tv ∧ ¬ m.t.testBit n = true) ∧ ∀ b c, Slot.b b c ∈ x.slots → b ∈ touched s m ∧ ∃ e, s.getB b = some e := by
  unfold wayOf at h
  split at h
  · cases h
  rename_i sl hl
  cases h
  refine ⟨rfl, rfl, rfl, rfl, fun n tv hn => ?_, fun b c hm => ?_⟩
  · obtain ⟨h1, h2⟩ := dropT_get hn
    exact ⟨h1, fun hb => h2 (mem_bits.2 hb)⟩
  · unfold layout at hl
    simp only at hl
    split at hl
    · rename_i l hbx
      cases hl
      rcases List.mem_append.1 hm with hm | hm
      · exact (tmpSlots_mem hm).elim
      · obtain ⟨h1, _⟩ := boxSlots_mem hbx
        obtain ⟨h2, h3⟩ := h1 b c hm
        refine ⟨?_, h3⟩
        unfold touched
        simp only [List.mem_flatten, List.mem_map] at h2 ⊢
        obtain ⟨q, ⟨n, hn, rfl⟩, hq⟩ := h2
        exact ⟨_, ⟨n, (List.mem_filter.1 hn).1, rfl⟩, hq⟩
    · cases hl

end
end Go.Px
