/-
Px: the operations that make or write memory.
-/
import Derived.Test.YtopmcbahdgfleaaGreatPxPure4
namespace Go.Px
set_option linter.unusedVariables false
set_option linter.unusedSimpArgs false

def upd {α : Type} (f : Nat → Option α) (k : Nat) (v : Option α) : Nat → Option α := fun n => if n = k then v else f n

section
variable {E : Env} {N : Nat} {P : Program} {n0 : Nz} {nt : Nat} {β : Nat → Option Nat} {σ : Nat → Option (Nat × Nat)} {s s' : St0 E N} {a : Act} {w w' : World}

theorem upd_same {α : Type} (f : Nat → Option α) (k : Nat) (v : Option α) : upd f k v k = v := by simp [upd]
theorem upd_other {α : Type} (f : Nat → Option α) {k n : Nat} (v : Option α) (h : n ≠ k) : upd f k v n = f n := by simp [upd, h]

/-- New memory that nobody knows yet: nothing turns. -/
structure Grow (w w' : World) : Prop where
  os : w'.os = w.os
  tape : w'.tape = w.tape
  output : w'.output = w.output
  size : w.heap.size ≤ w'.heap.size
  old : ∀ b, b < w.heap.size → w'.heap[b]? = w.heap[b]?

theorem Grow.refl (w : World) : Grow w w := ⟨rfl, rfl, rfl, Nat.le_refl _, fun _ _ => rfl⟩
theorem Grow.alloc (w : World) (o : Obj) : Grow w (w.alloc o) := ⟨rfl, rfl, rfl, by simp, fun b hb => by
  show (w.heap.push o)[b]? = _
  rw [Array.getElem?_push, if_neg (by omega)]⟩
theorem Grow.drew (w : World) : Grow w w.drew := ⟨rfl, rfl, rfl, Nat.le_refl _, fun _ _ => rfl⟩
theorem Grow.trans {w1 w2 w3 : World} (h : Grow w1 w2) (k : Grow w2 w3) : Grow w1 w3 :=
  ⟨k.os.trans h.os, k.tape.trans h.tape, k.output.trans h.output, Nat.le_trans h.size k.size, fun b hb => (k.old b (Nat.lt_of_lt_of_le hb h.size)).trans (h.old b hb)⟩

theorem Grow.ext (g : Grow w w') (P : Program) (new : Nat → Prop) (β : Nat → Option Nat) (σ : Nat → Option (Nat × Nat)) (s : St0 E N) : Ext P new β σ s w β σ s w' :=
  ⟨g.os, g.tape, g.output, g.size, fun b hb _ => g.old b hb, fun _ h => .inl h, fun b e h _ => ⟨⟨e, h⟩, rfl⟩, fun id h hh _ => ⟨h, hh, rfl, rfl, rfl⟩⟩

theorem heap_alloc_at (w : World) (o : Obj) : (w.alloc o).heap[w.heap.size]? = some o := by
  show (w.heap.push o)[w.heap.size]? = some o
  simp

/-- A variable in a new block. -/
theorem new_box (m : Mem P n0 β σ s w) {id : Nat} (hf : Fresh a s id) {cs : List (AC0 E N)} {vs : Array Value} (hr : RelCs P n0 β σ s w cs vs.toList)
    (hcn : id ∉ namesCs cs) (T : TypeId) {wr : Wr (std E N)} (hb : wr.bs = [(id, some { cs, dirty := true })]) (hh : wr.hs = []) :
    Mem P n0 (upd β id (some w.heap.size)) σ (s.apply wr) (w.alloc (.cells vs T)) ∧
      Ext P (· = id) β σ s w (upd β id (some w.heap.size)) σ (s.apply wr) (w.alloc (.cells vs T)) := by
  have gB := fun n => State.getB_apply1 s id (some { cs, dirty := true }) wr hb n
  have gH := fun n => State.getH_apply0 s wr hh n
  have old : ∀ n e, s.getB n = some e → n ≠ id := fun n e he h => ((hf.b n e he).1 h.symm)
  have hltB : ∀ n e blk, s.getB n = some e → β n = some blk → blk < w.heap.size := fun n e blk he hb => by
    obtain ⟨blk', cells, el, hb', hheap, _⟩ := m.B n e he
    rw [hb'] at hb; cases hb; exact lt_of_heap hheap
  have hltH : ∀ n e blk cap, s.getH n = some e → σ n = some (blk, cap) → blk < w.heap.size := fun n e blk cap he hb => by
    obtain ⟨t, ts, _, _, _, hm⟩ := m.H n e he
    rcases hm with ⟨h1, _⟩ | ⟨blk', cap', cells, el, h1, hheap, _⟩
    · rw [h1] at hb; cases hb
    · rw [h1] at hb; cases hb; exact lt_of_heap hheap
  have x : Ext P (· = id) β σ s w (upd β id (some w.heap.size)) σ (s.apply wr) (w.alloc (.cells vs T)) := by
    have g := Grow.alloc w (.cells vs T)
    refine ⟨g.os, g.tape, g.output, g.size, fun b hb _ => g.old b hb, fun b hb => ?_, fun b e he hn => ?_, fun n e he hn => ?_⟩
    · rcases hb with ⟨n, e, he, hb⟩ | ⟨n, e, cap, he, hfz, hb⟩
      · rw [gB] at he
        by_cases hid : n = id
        · rw [hid, upd_same] at hb; cases hb; exact .inr (Nat.le_refl _)
        · rw [if_neg hid] at he; rw [upd_other _ _ hid] at hb; exact .inl (.inl ⟨n, e, he, hb⟩)
      · rw [gH] at he; exact .inl (.inr ⟨n, e, cap, he, hfz, hb⟩)
    · rw [gB, if_neg hn] at he; exact ⟨⟨e, he⟩, upd_other _ _ hn⟩
    · rw [gH] at he; exact ⟨e, he, rfl, rfl, rfl⟩
  have hnew : ∀ n, n ∈ namesCs cs → ¬ n = id := fun n hn h => hcn (h ▸ hn)
  refine ⟨⟨fun n e he => ?_, fun n e he => ?_, fun b b' e e' blk h h' hb hb' => ?_, fun i i' e e' blk cap cap' h h' hi hi' => ?_, fun b e i h blk cap hb hi h1 h2 => ?_⟩, x⟩
  · rw [gB] at he
    by_cases hid : n = id
    · rw [if_pos hid] at he; cases he
      exact ⟨w.heap.size, vs, T, by rw [hid, upd_same], heap_alloc_at w _, x.relCs hnew hr⟩
    · rw [if_neg hid] at he
      obtain ⟨blk, cells, el, hb, hheap, hrel⟩ := m.B n e he
      exact ⟨blk, cells, el, by rw [upd_other _ _ hid]; exact hb, ((Grow.alloc w (.cells vs T)).old blk (lt_of_heap hheap)).trans hheap,
        x.relCs (fun k hk h => (hf.b n e he).2 (h ▸ hk)) hrel⟩
  · rw [gH] at he
    obtain ⟨t, ts, ht, hts, hrl, hm⟩ := m.H n e he
    refine ⟨t, ts, ht, hts, hrl, ?_⟩
    rcases hm with hm | ⟨blk, cap, cells, el, ha, hheap, hel, hc, hd, hnw, v, hv, hrep⟩
    · exact .inl hm
    · exact .inr ⟨blk, cap, cells, el, ha, ((Grow.alloc w (.cells vs T)).old blk (lt_of_heap hheap)).trans hheap, hel, hc, hd, hnw, v, hv, fun i j t' hi hj => x.rep (hrep i j t' hi hj)⟩
  · rw [gB] at h h'
    by_cases h1 : b = id <;> by_cases h2 : b' = id
    · rw [h1, h2]
    · rw [h1, upd_same] at hb; cases hb
      rw [if_neg h2] at h'; rw [upd_other _ _ h2] at hb'
      have := hltB b' e' _ h' hb'; omega
    · rw [h2, upd_same] at hb'; cases hb'
      rw [if_neg h1] at h; rw [upd_other _ _ h1] at hb
      have := hltB b e _ h hb; omega
    · rw [if_neg h1] at h; rw [if_neg h2] at h'; rw [upd_other _ _ h1] at hb; rw [upd_other _ _ h2] at hb'
      exact m.uB b b' e e' blk h h' hb hb'
  · rw [gH] at h h'; exact m.uH i i' e e' blk cap cap' h h' hi hi'
  · rw [gB] at hb; rw [gH] at hi
    by_cases h3 : b = id
    · rw [h3, upd_same] at h1; cases h1
      have := hltH i h _ _ hi h2; omega
    · rw [if_neg h3] at hb; rw [upd_other _ _ h3] at h1
      exact m.uX b e i h blk cap hb hi h1 h2


theorem Mem.ltB (m : Mem P n0 β σ s w) {n : Nat} {e : BEnt (std E N)} {blk : Nat} (he : s.getB n = some e) (hb : β n = some blk) : blk < w.heap.size := by
  obtain ⟨blk', cells, el, hb', hheap, _⟩ := m.B n e he
  rw [hb'] at hb; cases hb; exact lt_of_heap hheap

theorem Mem.ltH (m : Mem P n0 β σ s w) {n : Nat} {e : HEnt (std E N)} {blk cap : Nat} (he : s.getH n = some e) (hb : σ n = some (blk, cap)) : blk < w.heap.size := by
  obtain ⟨t, ts, _, _, _, hm⟩ := m.H n e he
  rcases hm with ⟨h1, _⟩ | ⟨blk', cap', cells, el, h1, hheap, _⟩
  · rw [h1] at hb; cases hb
  · rw [h1] at hb; cases hb; exact lt_of_heap hheap

/-- One owned slice turns; all others stay. -/
theorem put_own {σ' : Nat → Option (Nat × Nat)} {new : Nat → Prop} {id : Nat} (m : Mem P n0 β σ s w) (x : Ext P new β σ s w β σ' s' w')
    (hB : ∀ n e', s'.getB n = some e' → ∃ e, s.getB n = some e ∧ e'.cs = e.cs ∧ ∀ k ∈ namesCs e.cs, ¬ new k)
    (hBw : ∀ n e blk, s'.getB n = some e → β n = some blk → w'.heap[blk]? = w.heap[blk]?)
    (hH : ∀ n h', n ≠ id → s'.getH n = some h' → ∃ h, s.getH n = some h ∧ h'.e = h.e ∧ h'.l = h.l ∧ h'.nw = h.nw ∧ (h'.frozen = false → h.frozen = false) ∧ σ' n = σ n)
    (hHw : ∀ n h blk cap, n ≠ id → s'.getH n = some h → σ n = some (blk, cap) → w'.heap[blk]? = w.heap[blk]?)
    (hid : ∀ h, s'.getH id = some h → RelH P n0 β σ' s' w' id h)
    (hun : ∀ blk cap, σ' id = some (blk, cap) → (∀ n e, s'.getB n = some e → β n ≠ some blk) ∧ (∀ n h cap', n ≠ id → s'.getH n = some h → σ n ≠ some (blk, cap'))) :
    Mem P n0 β σ' s' w' where
  B n e he := by
    obtain ⟨e0, h0, hc, hn⟩ := hB n e he
    obtain ⟨blk, cells, el, hb, hheap, hrel⟩ := m.B n e0 h0
    exact ⟨blk, cells, el, hb, (hBw n e blk he hb).trans hheap, x.relCs (by rw [hc]; exact hn) (by rw [hc]; exact hrel)⟩
  H n h hh := by
    by_cases hni : n = id
    · subst hni; exact hid h hh
    · obtain ⟨h0, hh0, h1, h2, h3, h4, h5⟩ := hH n h hni hh
      obtain ⟨t, ts, ht, hts, hrl, hm⟩ := m.H n h0 hh0
      refine ⟨t, ts, by rw [h1]; exact ht, by rw [h1]; exact hts, by rw [h2]; exact hrl, ?_⟩
      rcases hm with ⟨ha, hb⟩ | ⟨blk, cap, cells, el, ha, hheap, hel, hc, hd, hnw, v, hv, hrep⟩
      · exact .inl ⟨by rw [h5]; exact ha, by rw [h2]; exact hb⟩
      · refine .inr ⟨blk, cap, cells, el, by rw [h5]; exact ha, (hHw n h blk cap hni hh ha).trans hheap, by rw [h1]; exact hel, hc, by rw [h2]; exact hd, by rw [h3]; exact hnw, v, by rw [h2]; exact hv, fun i j t' hi hj => ?_⟩
        rw [h2] at hi ⊢
        rw [h3]
        exact x.rep (hrep i j t' hi hj)
  uB b b' e e' blk h h' hb hb' := by
    obtain ⟨e0, h0, _⟩ := hB b e h
    obtain ⟨e1, h1, _⟩ := hB b' e' h'
    exact m.uB b b' e0 e1 blk h0 h1 hb hb'
  uH i i' e e' blk cap cap' h h' hi hi' := by
    by_cases h1 : i = id <;> by_cases h2 : i' = id
    · rw [h1, h2]
    · rw [h1] at hi
      obtain ⟨h0, hh0, _, _, _, _, h5⟩ := hH i' e' h2 h'
      rw [h5] at hi'
      exact ((hun blk cap hi).2 i' e' cap' h2 h' hi').elim
    · rw [h2] at hi'
      obtain ⟨h0, hh0, _, _, _, _, h5⟩ := hH i e h1 h
      rw [h5] at hi
      exact ((hun blk cap' hi').2 i e cap h1 h hi).elim
    · obtain ⟨h0, hh0, _, _, _, _, h5⟩ := hH i e h1 h
      obtain ⟨h0', hh0', _, _, _, _, h5'⟩ := hH i' e' h2 h'
      rw [h5] at hi; rw [h5'] at hi'
      exact m.uH i i' h0 h0' blk cap cap' hh0 hh0' hi hi'
  uX b e i h blk cap hb hi h1 h2 := by
    obtain ⟨e0, h0, _⟩ := hB b e hb
    by_cases h3 : i = id
    · rw [h3] at h2; exact (hun blk cap h2).1 b e hb h1
    · obtain ⟨h4, hh4, _, _, _, _, h5⟩ := hH i h h3 hi
      rw [h5] at h2
      exact m.uX b e0 i h4 blk cap h0 hh4 h1 h2

theorem Mem.grow (m : Mem P n0 β σ s w) (g : Grow w w') : Mem P n0 β σ s w' where
  B n e he := by
    obtain ⟨blk, cells, el, hb, hheap, hrel⟩ := m.B n e he
    exact ⟨blk, cells, el, hb, (g.old blk (lt_of_heap hheap)).trans hheap, (g.ext P (fun _ => False) β σ s).relCs (fun _ _ => id) hrel⟩
  H n h hh := by
    obtain ⟨t, ts, ht, hts, hrl, hm⟩ := m.H n h hh
    refine ⟨t, ts, ht, hts, hrl, ?_⟩
    rcases hm with hm | ⟨blk, cap, cells, el, ha, hheap, hel, hc, hd, hnw, v, hv, hrep⟩
    · exact .inl hm
    · exact .inr ⟨blk, cap, cells, el, ha, (g.old blk (lt_of_heap hheap)).trans hheap, hel, hc, hd, hnw, v, hv, fun i j t' hi hj => (g.ext P (fun _ => False) β σ s).rep (hrep i j t' hi hj)⟩
  uB := m.uB
  uH := m.uH
  uX := m.uX

/-- What a step must keep: names that did not occur; what is clean was there before. -/
structure Tidy (a : Act) (new : Nat → Prop) (s s' : St0 E N) : Prop where
  fresh : ∀ n, Fresh a s n → ¬ new n → Fresh a s' n
  cleanB : ∀ n e, s'.getB n = some e → e.dirty = false → s.getB n = some e
  cleanH : ∀ n e, s'.getH n = some e → e.dirty = false → s.getH n = some e

/-- Writes that freeze or forget. -/
def PreOK (s : St0 E N) (fr : List (Nat × Option (HEnt (std E N)))) : Prop :=
  ∀ n v, (n, v) ∈ fr → v = none ∨ ∃ h, s.getH n = some h ∧ v = some { h with frozen := true, dirty := true }

theorem FrOK.pre {fr : List (Nat × Option (HEnt (std E N)))} (h : FrOK s fr) : PreOK s fr := fun n v hm => .inr (h n v hm)

theorem applyA_pre {fr : List (Nat × Option (HEnt (std E N)))} : ∀ {l : List (Nat × HEnt (std E N))}, (∀ n v, (n, v) ∈ fr → v = none ∨ ∃ h, alGet s.hp n = some h ∧ v = some { h with frozen := true, dirty := true }) →
    (∀ k h', alGet l k = some h' → ∃ h, alGet s.hp k = some h ∧ (h' = h ∨ h' = { h with frozen := true, dirty := true })) →
    ∀ k h', alGet (applyA l fr) k = some h' → ∃ h, alGet s.hp k = some h ∧ (h' = h ∨ h' = { h with frozen := true, dirty := true }) := by
  induction fr with
  | nil => intro l _ hl k h' hk; exact hl k h' hk
  | cons x fr ih =>
    intro l hfr hl k h' hk
    obtain ⟨n, v⟩ := x
    simp only [applyA] at hk
    refine ih (fun n v hm => hfr n v (List.mem_cons_of_mem _ hm)) (fun k h' hk => ?_) k h' hk
    rw [alGet_alSet] at hk
    split at hk
    · rename_i hkn
      rcases hfr n v List.mem_cons_self with h2 | ⟨h, h1, h2⟩
      · rw [h2] at hk; cases hk
      · rw [h2] at hk
        cases hk
        exact ⟨h, by rw [hkn]; exact h1, .inr rfl⟩
    · exact hl k h' hk

theorem PreOK.get {fr : List (Nat × Option (HEnt (std E N)))} (h : PreOK s fr) {wr : Wr (std E N)} (hw : wr.hs = fr) (k : Nat) (h' : HEnt (std E N)) (hk : (s.apply wr).getH k = some h') :
    ∃ h, s.getH k = some h ∧ (h' = h ∨ h' = { h with frozen := true, dirty := true }) := by
  unfold State.apply State.getH at hk
  rw [hw] at hk
  exact applyA_pre h (fun k h' hk => ⟨h', hk, .inl rfl⟩) k h' hk

theorem PreOK.sub {fr : List (Nat × Option (HEnt (std E N)))} (h : PreOK s fr) {wr : Wr (std E N)} (hw : wr.hs = fr) (hb : wr.bs = []) : Sub s (s.apply wr) where
  b n e he := ⟨e, by rw [State.getB_apply0 s wr hb] at he; exact he, rfl⟩
  h n h' hk := by
    obtain ⟨h0, hh, h1⟩ := h.get hw n h' hk
    refine ⟨h0, hh, ?_⟩
    rcases h1 with rfl | rfl
    · exact ⟨rfl, rfl, rfl, id⟩
    · exact ⟨rfl, rfl, rfl, fun h => by cases h⟩

/-- An owned slice in a new block. -/
theorem new_own (m : Mem P n0 β σ s w) {id : Nat} (hf : Fresh a s id) {fr : List (Nat × Option (HEnt (std E N)))} (hfr : PreOK s fr) {h : HEnt (std E N)} {wr : Wr (std E N)}
    (ht0 : wr.ts = []) (hb : wr.bs = []) (hh : wr.hs = fr ++ [(id, some h)]) (hd : h.dirty = true) (hz : h.frozen = false) {w1 : World} (g : Grow w w1) {cells : Array Value} {cap : Nat} {t : TypeId} {ts : List TypeId}
    (ht : lkOf P t = .sl h.e) (hts : tysOf P h.e = some ts) (hrl : ∀ r ∈ h.l, r.length = ts.length) (hsz : cells.size = cap * ts.length) (hcap : h.l.length ≤ cap) (hn0 : n0.n ≤ w.heap.size)
    (v : Nat → Nat → Value) (hv : ∀ i j, i < h.l.length → j < ts.length → cells[i * ts.length + j]? = some (v i j))
    (hrep : ∀ i j t', i < h.l.length → ts[j]? = some t' → Rep P w (StB n0 β σ (s.apply { hs := fr }) h.nw) t' (v i j) (pvAt h.l i j)) :
    Mem P n0 β (upd σ id (some (w1.heap.size, cap))) (s.apply wr) (w1.alloc (.cells cells h.e)) ∧
      Ext P (· = id) β σ s w β (upd σ id (some (w1.heap.size, cap))) (s.apply wr) (w1.alloc (.cells cells h.e)) ∧ Tidy a (· = id) s (s.apply wr) ∧
      (s.apply wr).getH id = some h := by
  have gB := fun n => State.getB_apply0 s wr hb n
  have gs : ∀ n, (s.apply wr).getH n = if n = id then some h else (s.apply { hs := fr }).getH n := fun n => by
    unfold State.apply State.getH
    simp only [hh, applyA_append, applyA]
    exact alGet_alSet _ _ _ _
  have old : ∀ n e, s.getH n = some e → n ≠ id := fun n e he h => (hf.h n e he h.symm)
  have fget : ∀ n h', n ≠ id → (s.apply wr).getH n = some h' → ∃ h0, s.getH n = some h0 ∧ (h' = h0 ∨ h' = { h0 with frozen := true, dirty := true }) := fun n h' hn he => by
    rw [gs, if_neg hn] at he
    exact hfr.get rfl n h' he
  have gg := g.trans (Grow.alloc w1 (.cells cells h.e))
  have x : Ext P (· = id) β σ s w β (upd σ id (some (w1.heap.size, cap))) (s.apply wr) (w1.alloc (.cells cells h.e)) := by
    refine ⟨gg.os, gg.tape, gg.output, gg.size, fun b hb _ => gg.old b hb, fun b hb => ?_, fun b e he hn => ?_, fun n e he hn => ?_⟩
    · rcases hb with ⟨n, e, he, hb⟩ | ⟨n, e, cap', he, hfz, hb⟩
      · rw [gB] at he; exact .inl (.inl ⟨n, e, he, hb⟩)
      · by_cases hid : n = id
        · rw [hid, upd_same] at hb; cases hb; exact .inr g.size
        · obtain ⟨h0, hh0, h1⟩ := fget n e hid he
          rw [upd_other _ _ hid] at hb
          rcases h1 with rfl | rfl
          · exact .inl (.inr ⟨n, e, cap', hh0, hfz, hb⟩)
          · cases hfz
    · rw [gB] at he; exact ⟨⟨e, he⟩, rfl⟩
    · obtain ⟨h0, hh0, h1⟩ := fget n e hn he
      refine ⟨h0, hh0, upd_other _ _ hn, ?_⟩
      rcases h1 with rfl | rfl <;> exact ⟨rfl, rfl⟩
  have hget : (s.apply wr).getH id = some h := by rw [gs, if_pos rfl]
  refine ⟨put_own (id := id) m x (fun n e he => ?_) (fun n e blk he hb => ?_) (fun n h' hn he => ?_) (fun n h' blk cap' hn he hs => ?_) (fun h' he => ?_) (fun blk cap' hs => ?_), x, ⟨fun n hfn hn => ?_, fun n e he hd' => ?_, fun n e he hd' => ?_⟩, hget⟩
  · rw [gB] at he; exact ⟨e, he, rfl, fun k hk h => (hf.b n e he).2 (h ▸ hk)⟩
  · rw [gB] at he; exact gg.old blk (m.ltB he hb)
  · obtain ⟨h0, hh0, h1⟩ := fget n h' hn he
    refine ⟨h0, hh0, ?_⟩
    rcases h1 with rfl | rfl
    · exact ⟨rfl, rfl, rfl, fun h => h, upd_other _ _ hn⟩
    · exact ⟨rfl, rfl, rfl, (fun h => by cases h), upd_other _ _ hn⟩
  · obtain ⟨h0, hh0, _⟩ := fget n h' hn he
    exact gg.old blk (m.ltH hh0 hs)
  · rw [hget] at he; cases he
    have x1 : Ext P (· = id) β σ (s.apply { hs := fr }) w β (upd σ id (some (w1.heap.size, cap))) (s.apply wr) (w1.alloc (.cells cells h.e)) := by
      refine ⟨gg.os, gg.tape, gg.output, gg.size, fun b hb _ => gg.old b hb, fun b hb => ?_, fun b e he hn => ?_, fun n e he hn => ?_⟩
      · rcases hb with ⟨n, e, he, hb⟩ | ⟨n, e, cap', he, hfz, hb⟩
        · rw [gB] at he; exact .inl (.inl ⟨n, e, by rw [State.getB_apply0 s _ rfl]; exact he, hb⟩)
        · by_cases hid : n = id
          · rw [hid, upd_same] at hb; cases hb; exact .inr g.size
          · rw [gs, if_neg hid] at he; rw [upd_other _ _ hid] at hb
            exact .inl (.inr ⟨n, e, cap', he, hfz, hb⟩)
      · rw [gB] at he; exact ⟨⟨e, by rw [State.getB_apply0 s _ rfl]; exact he⟩, rfl⟩
      · rw [gs, if_neg hn] at he; exact ⟨e, he, upd_other _ _ hn, rfl, rfl⟩
    exact ⟨t, ts, ht, hts, hrl, .inr ⟨w1.heap.size, cap, cells, h.e, upd_same _ _ _, heap_alloc_at _ _, rfl, hsz, hcap, Old.new (Nat.le_trans hn0 g.size), v, hv, fun i j t' hi hj => x1.rep (hrep i j t' hi hj)⟩⟩
  · rw [upd_same] at hs; cases hs
    refine ⟨fun n e he hb => ?_, fun n h' cap'' hn he hs => ?_⟩
    · rw [gB] at he; have := m.ltB he hb; have := g.size; omega
    · obtain ⟨h0, hh0, _⟩ := fget n h' hn he
      have := m.ltH hh0 hs; have := g.size; omega
  · refine ⟨fun k tv hk => ?_, fun k e he => ?_, fun k e he => ?_⟩
    · rw [State.getT_apply0 s wr ht0] at hk; exact hfn.t k tv hk
    · rw [gB] at he; exact hfn.b k e he
    · by_cases hk : k = id
      · exact fun h => hn (h.trans hk)
      · obtain ⟨h0, hh0, _⟩ := fget k e hk he
        exact hfn.h k h0 hh0
  · rw [gB] at he; exact he
  · by_cases hk : n = id
    · rw [hk, hget] at he; cases he; rw [hd] at hd'; cases hd'
    · obtain ⟨h0, hh0, h1⟩ := fget n e hk he
      rcases h1 with rfl | rfl
      · exact hh0
      · cases hd'


theorem new_box_tidy {id : Nat} {cs : List (AC0 E N)} (hcn : ∀ n, Fresh a s n → n ∉ namesCs cs) {wr : Wr (std E N)} (ht0 : wr.ts = []) (hb : wr.bs = [(id, some { cs, dirty := true })]) (hh : wr.hs = []) :
    Tidy a (· = id) s (s.apply wr) where
  fresh n hf hn := by
    refine ⟨fun k tv hk => ?_, fun k e he => ?_, fun k e he => ?_⟩
    · rw [State.getT_apply0 s wr ht0] at hk; exact hf.t k tv hk
    · rw [State.getB_apply1 s id _ wr hb] at he
      by_cases hk : k = id
      · rw [if_pos hk] at he; cases he; exact ⟨fun h => hn (h.trans hk), hcn n hf⟩
      · rw [if_neg hk] at he; exact hf.b k e he
    · rw [State.getH_apply0 s wr hh] at he; exact hf.h k e he
  cleanB n e he hd := by
    rw [State.getB_apply1 s id _ wr hb] at he
    by_cases hk : n = id
    · rw [if_pos hk] at he; cases he; cases hd
    · rw [if_neg hk] at he; exact he
  cleanH n e he hd := by rw [State.getH_apply0 s wr hh] at he; exact he

/-! ### Cells as leaves -/

/-- What `toLfs` gives reads as the cells did, once it is frozen what it freezes. -/
theorem toLf_ok (m : Mem P n0 β σ s w) {c : AC0 E N} {v : Value} {l : SLeaf} {fr : List (Nat × Option (HEnt (std E N)))} {nw : Bool} {k k' : Nat} (hc : RelC P n0 β σ s w c v)
    (h : RM.run s (toLf (O := std E N) c) k = .ok ((l, fr, nw), k')) : FrOK s fr ∧ (∀ x ∈ fr, x.1 ∈ c.names) ∧
      ∀ (t : TypeId) (s1 : St0 E N), rowKind (lkOf P t) c = true → Sub s s1 → (∀ x ∈ fr, ∀ h, s1.getH x.1 = some h → h.frozen = true) → (∀ x ∈ fr, ∃ h, s1.getH x.1 = some h) →
        ∀ nw' : Bool, (nw' = true → nw = true) → Rep P w (StB n0 β σ s1 nw') t v l.pv := by
  cases c with
  | int q i =>
    have hr := RM.ret_ok h
    simp only [Prod.mk.injEq] at hr
    obtain ⟨rfl, rfl, rfl⟩ := hr
    refine ⟨fun _ _ hm => by simp at hm, fun _ hm => by simp at hm, fun t s1 hk _ _ _ nw' _ => ?_⟩
    have hv : v = .int q i := hc
    subst hv
    unfold rowKind at hk
    split at hk
    · rename_i q2 q3 i2 hl e
      cases e
      have := ikEq_iff.1 hk; subst this
      exact .int hl
    all_goals (rename_i e; first | cases e | cases hk)
  | bool b =>
    have hr := RM.ret_ok h
    simp only [Prod.mk.injEq] at hr
    obtain ⟨rfl, rfl, rfl⟩ := hr
    refine ⟨fun _ _ hm => by simp at hm, fun _ hm => by simp at hm, fun t s1 hk _ _ _ nw' _ => ?_⟩
    have hv : v = .bool b := hc
    subst hv
    cases hl : lkOf P t <;> rw [hl] at hk <;> simp [rowKind] at hk
    exact .bool hl
  | str x =>
    have hr := RM.ret_ok h
    simp only [Prod.mk.injEq] at hr
    obtain ⟨rfl, rfl, rfl⟩ := hr
    refine ⟨fun _ _ hm => by simp at hm, fun _ hm => by simp at hm, fun t s1 hk _ _ _ nw' _ => ?_⟩
    have hv : v = .string x := hc
    subst hv
    cases hl : lkOf P t <;> rw [hl] at hk <;> simp [rowKind] at hk
    exact .str hl
  | nil e =>
    have hr := RM.ret_ok h
    simp only [Prod.mk.injEq] at hr
    obtain ⟨rfl, rfl, rfl⟩ := hr
    refine ⟨fun _ _ hm => by simp at hm, fun _ hm => by simp at hm, fun t s1 hk _ _ _ nw' _ => ?_⟩
    obtain ⟨t0, ts, ht0, hts, av, rfl⟩ := hc
    cases hl : lkOf P t <;> rw [hl] at hk <;> simp [rowKind] at hk
    rename_i e2
    subst hk
    exact .sl (fun _ _ => undef) hl hts rfl (by simp) (Nat.le_refl _) (.inl rfl) (fun i j t' hi => by omega)
  | imm e nw0 l0 =>
    have hr := RM.ret_ok h
    simp only [Prod.mk.injEq] at hr
    obtain ⟨rfl, rfl, rfl⟩ := hr
    refine ⟨fun _ _ hm => by simp at hm, fun _ hm => by simp at hm, fun t s1 hk hs _ _ nw' hnw => ?_⟩
    obtain ⟨t0, ht0, hrep⟩ := hc
    cases hl : lkOf P t <;> rw [hl] at hk <;> simp [rowKind] at hk
    rename_i e2
    subst hk
    have h2 := hrep.st (St' := StB n0 β σ s1 nw') (fun b hb => ⟨fun hm => hb.1 (hs.inM hm), hb.2.mono hnw⟩)
    cases h2 with
    | sl v h hts hl' hr hc hm hv => exact .sl v hl (by rw [ht0] at h; cases h; exact hts) hl' hr hc hm hv
  | own e id =>
    obtain ⟨k1, h⟩ := RM.h_ok h
    cases hh : s.getH id with
    | none => rw [hh] at h; exact (RM.fail_ok h).elim
    | some en =>
      rw [hh] at h
      have hr := RM.ret_ok h
      simp only [Prod.mk.injEq] at hr
      obtain ⟨rfl, rfl, rfl⟩ := hr
      refine ⟨fun n v hm => ?_, fun x hm => ?_, fun t s1 hk hs hfz hex nw' hnw => ?_⟩
      · simp only [List.mem_singleton, Prod.mk.injEq] at hm
        obtain ⟨rfl, rfl⟩ := hm
        exact ⟨en, hh, rfl⟩
      · simp only [List.mem_singleton] at hm; subst hm; simp [AC.names]
      · obtain ⟨_, hown⟩ := hc
        obtain ⟨he, ho⟩ := hown en hh
        obtain ⟨h1, hh1⟩ := hex _ List.mem_cons_self
        have hf1 := hfz _ List.mem_cons_self h1 hh1
        obtain ⟨h2, hh2, q1, q2, q3, _⟩ := hs.h id h1 hh1
        rw [hh] at hh2; cases hh2
        obtain ⟨t0, ht0, hrep⟩ := own_rep (hs.mem m) hh1 hf1 (v := v) (by rw [q2]; exact ho)
        rw [q1, he] at ht0
        rw [q2, q3] at hrep
        cases hl : lkOf P t <;> rw [hl] at hk <;> simp [rowKind] at hk
        rename_i e2
        subst hk
        have h2 := hrep.st (St' := StB n0 β σ s1 nw') (fun b hb => ⟨hb.1, hb.2.mono hnw⟩)
        cases h2 with
        | sl v h hts hl' hr hc hm hv => exact .sl v hl (by rw [ht0] at h; cases h; exact hts) hl' hr hc hm hv
  | _ => exact (RM.fail_ok h).elim


/-- All that a list freezes is frozen. -/
def Frz (s1 : St0 E N) (fr : List (Nat × Option (HEnt (std E N)))) : Prop := ∀ x ∈ fr, ∃ h, s1.getH x.1 = some h ∧ h.frozen = true

theorem FrOK.frz {fr : List (Nat × Option (HEnt (std E N)))} (h : FrOK s fr) {wr : Wr (std E N)} (hw : wr.hs = fr) : Frz (s.apply wr) fr := by
  intro x hx
  obtain ⟨h0, hh0, hv⟩ := h x.1 x.2 hx
  refine ⟨{ h0 with frozen := true, dirty := true }, ?_, rfl⟩
  unfold State.apply State.getH
  rw [hw]
  exact applyA_last (fun y hy he => by
    obtain ⟨h1, hh1, hv1⟩ := h y.1 y.2 hy
    rw [he, hh0] at hh1; cases hh1
    exact hv1) ⟨x, hx, rfl⟩

theorem Frz.left {s1 : St0 E N} {f1 f2 : List (Nat × Option (HEnt (std E N)))} (h : Frz s1 (f1 ++ f2)) : Frz s1 f1 := fun x hx => h x (List.mem_append_left _ hx)
theorem Frz.right {s1 : St0 E N} {f1 f2 : List (Nat × Option (HEnt (std E N)))} (h : Frz s1 (f1 ++ f2)) : Frz s1 f2 := fun x hx => h x (List.mem_append_right _ hx)
theorem FrOK.append {f1 f2 : List (Nat × Option (HEnt (std E N)))} (h1 : FrOK s f1) (h2 : FrOK s f2) : FrOK s (f1 ++ f2) :=
  fun n v hm => (List.mem_append.1 hm).elim (h1 n v) (h2 n v)

theorem toLfs_ok (m : Mem P n0 β σ s w) : ∀ {cs : List (AC0 E N)} {vs : List Value} {ls : List SLeaf} {fr : List (Nat × Option (HEnt (std E N)))} {nw : Bool} {k k' : Nat}, RelCs P n0 β σ s w cs vs →
    RM.run s (toLfs (O := std E N) cs) k = .ok ((ls, fr, nw), k') → FrOK s fr ∧ (∀ x ∈ fr, x.1 ∈ namesCs cs) ∧ ls.length = cs.length ∧
      ∀ (ts : List TypeId) (s1 : St0 E N), rowKind1 P ts cs = true → Sub s s1 → Frz s1 fr → ∀ nw' : Bool, (nw' = true → nw = true) →
        ∀ (q : Nat) (t' : TypeId) (v : Value), ts[q]? = some t' → vs[q]? = some v → Rep P w (StB n0 β σ s1 nw') t' v (cellAt (ls.map Leaf.pv) q)
  | [], [], ls, fr, nw, k, k', _, h => by
    have hr := RM.ret_ok h
    simp only [Prod.mk.injEq] at hr
    obtain ⟨rfl, rfl, rfl⟩ := hr
    exact ⟨fun _ _ hm => by simp at hm, fun _ hm => by simp at hm, rfl, fun ts s1 _ _ _ nw' _ q t' v _ hv => by simp at hv⟩
  | c :: cs, v :: vs, ls, fr, nw, k, k', hc, h => by
    obtain ⟨⟨l, f1, n1⟩, k1, h1, h2⟩ := RM.bind_ok h
    obtain ⟨⟨ls2, f2, n2⟩, k2, h3, h4⟩ := RM.bind_ok h2
    have hr := RM.ret_ok h4
    simp only [Prod.mk.injEq] at hr
    obtain ⟨rfl, rfl, rfl⟩ := hr
    obtain ⟨a1, a2, a3⟩ := toLf_ok m hc.1 h1
    obtain ⟨b1, b2, b4, b3⟩ := toLfs_ok m hc.2 h3
    refine ⟨a1.append b1, fun x hx => ?_, by simp [b4], fun ts s1 hk hs hf nw' hnw q t' v' hq hv => ?_⟩
    · rcases List.mem_append.1 hx with h | h
      · simp [namesCs, a2 x h]
      · simp [namesCs, b2 x h]
    · cases ts with
      | nil => simp at hq
      | cons t ts =>
        simp only [rowKind1] at hk
        split at hk
        · rename_i hk1
          cases q with
          | zero =>
            simp at hq hv; subst hq; subst hv
            exact a3 t s1 hk1 hs (fun x hx h hh => by obtain ⟨h', e1, e2⟩ := hf.left x hx; rw [e1] at hh; cases hh; exact e2)
              (fun x hx => by obtain ⟨h', e1, _⟩ := hf.left x hx; exact ⟨h', e1⟩) nw' (fun e => by have := hnw e; simp at this; exact this.1)
          | succ q =>
            have := b3 ts s1 hk hs hf.right nw' (fun e => by have := hnw e; simp at this; exact this.2) q t' v' (by simpa using hq) (by simpa using hv)
            simpa [cellAt] using this
        · cases hk
  | [], _ :: _, _, _, _, _, _, hc, _ => hc.elim
  | _ :: _, [], _, _, _, _, _, hc, _ => hc.elim

theorem toRows_ok (m : Mem P n0 β σ s w) : ∀ {css : List (List (AC0 E N))} {vss : List (List Value)} {ls : List (List SLeaf)} {fr : List (Nat × Option (HEnt (std E N)))} {nw : Bool} {k k' : Nat},
    css.length = vss.length → (∀ (i : Nat) (cs : List (AC0 E N)) (vs : List Value), css[i]? = some cs → vss[i]? = some vs → RelCs P n0 β σ s w cs vs) →
    RM.run s (toRows (O := std E N) css) k = .ok ((ls, fr, nw), k') → FrOK s fr ∧ (∀ x ∈ fr, ∃ cs ∈ css, x.1 ∈ namesCs cs) ∧ ls.length = css.length ∧ (∀ (i : Nat) (l : List SLeaf) (cs : List (AC0 E N)), ls[i]? = some l → css[i]? = some cs → l.length = cs.length) ∧
      ∀ (ts : List TypeId) (s1 : St0 E N), rowKinds P ts css = true → Sub s s1 → Frz s1 fr → ∀ nw' : Bool, (nw' = true → nw = true) →
        ∀ (i q : Nat) (t' : TypeId) (vs : List Value) (v : Value), vss[i]? = some vs → ts[q]? = some t' → vs[q]? = some v → Rep P w (StB n0 β σ s1 nw') t' v (pvAt (ls.map (·.map Leaf.pv)) i q)
  | [], [], ls, fr, nw, k, k', _, _, h => by
    have hr := RM.ret_ok h
    simp only [Prod.mk.injEq] at hr
    obtain ⟨rfl, rfl, rfl⟩ := hr
    exact ⟨fun _ _ hm => by simp at hm, fun _ hm => by simp at hm, rfl, fun i l cs hl => by simp at hl, fun ts s1 _ _ _ nw' _ i q t' vs v hv => by simp at hv⟩
  | c :: cs, v :: vs, ls, fr, nw, k, k', hlen, hc, h => by
    obtain ⟨⟨l, f1, n1⟩, k1, h1, h2⟩ := RM.bind_ok h
    obtain ⟨⟨ls2, f2, n2⟩, k2, h3, h4⟩ := RM.bind_ok h2
    have hr := RM.ret_ok h4
    simp only [Prod.mk.injEq] at hr
    obtain ⟨rfl, rfl, rfl⟩ := hr
    obtain ⟨a1, a2, a4, a3⟩ := toLfs_ok m (hc 0 c v rfl rfl) h1
    obtain ⟨b1, b2, b4, b5, b3⟩ := toRows_ok m (by simpa using hlen) (fun i c v hc1 hv1 => hc (i + 1) c v (by simpa using hc1) (by simpa using hv1)) h3
    refine ⟨a1.append b1, fun x hx => ?_, by simp [b4], fun i l' c' hl hc' => ?_, fun ts s1 hk hs hf nw' hnw i q t' vs' v' hvs hq hv => ?_⟩
    · rcases List.mem_append.1 hx with h | h
      · exact ⟨c, List.mem_cons_self, a2 x h⟩
      · obtain ⟨c', hc', hn⟩ := b2 x h; exact ⟨c', List.mem_cons_of_mem _ hc', hn⟩
    · cases i with
      | zero => simp at hl hc'; subst hl; subst hc'; exact a4
      | succ i => exact b5 i l' c' (by simpa using hl) (by simpa using hc')
    · simp only [rowKinds] at hk
      split at hk
      · rename_i hk1
        cases i with
        | zero =>
          simp at hvs; subst hvs
          have := a3 ts s1 hk1 hs hf.left nw' (fun e => by have := hnw e; simp at this; exact this.1) q t' v' hq hv
          simpa [pvAt, rowAt] using this
        | succ i =>
          have := b3 ts s1 hk hs hf.right nw' (fun e => by have := hnw e; simp at this; exact this.2) i q t' vs' v' (by simpa using hvs) hq hv
          simpa [pvAt, rowAt] using this
      · cases hk
  | [], _ :: _, _, _, _, _, _, hl, _, _ => by simp at hl
  | _ :: _, [], _, _, _, _, _, hl, _, _ => by simp at hl

theorem chunks_length {α : Type} (n : Nat) : ∀ (k : Nat) (l : List α), (chunks n k l).length = k
  | 0, _ => rfl
  | k + 1, l => by simp [chunks, chunks_length n k]

theorem chunks_get {α : Type} (n : Nat) : ∀ (k i : Nat) (l : List α), i < k → (chunks n k l)[i]? = some ((l.drop (i * n)).take n)
  | k + 1, 0, l, _ => by simp [chunks]
  | k + 1, i + 1, l, h => by
    simp only [chunks, List.getElem?_cons_succ]
    rw [chunks_get n k i _ (by omega), List.drop_drop]
    congr 3
    rw [Nat.add_mul, Nat.one_mul, Nat.add_comm]

theorem repL_length {α : Type} (k : Nat) (l : List α) : (repL k l).length = k * l.length := by
  induction k with
  | zero => simp [repL]
  | succ k ih => simp [repL, ih, Nat.add_mul, Nat.add_comm]

theorem repL_get {α : Type} {l : List α} (hl : 0 < l.length) : ∀ (k i : Nat), i < k * l.length → (repL k l)[i]? = l[i % l.length]?
  | 0, i, h => by simp at h
  | k + 1, i, h => by
    simp only [repL]
    by_cases hi : i < l.length
    · rw [List.getElem?_append_left hi, Nat.mod_eq_of_lt hi]
    · rw [List.getElem?_append_right (by omega), repL_get hl k (i - l.length) (by rw [Nat.add_mul, Nat.one_mul] at h; omega)]
      congr 1
      conv => rhs; rw [show i = i - l.length + l.length by omega]
      rw [Nat.add_mod_right]

theorem repL_rel {cs : List (AC0 E N)} {vs : List Value} (h : RelCs P n0 β σ s w cs vs) (k : Nat) : RelCs P n0 β σ s w (repL k cs) (repL k vs) := by
  induction k with
  | zero => trivial
  | succ k ih => exact RelCs.append h ih

theorem made_eq (z : Array Value) (hz : 0 < z.size) (k : Nat) : ((Array.range (k * z.size)).map (z[· % z.size]!)).toList = repL k z.toList := by
  apply List.ext_getElem?
  intro i
  by_cases hi : i < k * z.size
  · have hm : i % z.size < z.size := Nat.mod_lt _ hz
    rw [repL_get (by simpa using hz) k i (by simpa using hi)]
    simp [hi, hm, getElem!_pos, List.getElem?_range]
  · rw [List.getElem?_eq_none (by simp; omega), List.getElem?_eq_none (by rw [repL_length]; simp; omega)]

theorem RelCs.oneCells {cs : List (AC0 E N)} {vs : List Value} (h : RelCs P n0 β σ s w cs vs) : ∀ v ∈ vs, v.oneCell' = true := RelCs.one h


/-- `execOp` for an operation that gives a value and makes memory. -/
theorem exec_m {o : Oper} {x : Sem Value} {z : Value} {w1 : World} (he : execOp a.eval o = (do pure (.value (← x)))) (hx : x.run P w = .ok z w1) : (execOp a.eval o).run P w = .ok (.value z) w1 := by
  rw [he]; simp [hx]

end
end Go.Px
