/-
Px: places of a state, and what a step reads and writes of them.
-/
import Derived.Test.YtopmcbahdgfleaaGreatPxSeq2
namespace Go.Px
set_option linter.unusedVariables false
set_option linter.unusedSimpArgs false

section
variable {E : Env} {N : Nat} {P : Program} {cfg : Cfg} {n0 n0' : Nz} {nt : Nat} {β β' : Nat → Option Nat} {σ σ' : Nat → Option (Nat × Nat)} {s s' s2 : St0 E N} {a : Act} {w w' : World}

/-- What lies at a place. -/
def look (s : St0 E N) (p : Nat) : Option (TV (std E N)) × Option (BEnt (std E N)) × Option (HEnt (std E N)) :=
  (if p % 3 = 0 then s.getT (p / 3) else none, if p % 3 = 1 then s.getB (p / 3) else none, if p % 3 = 2 then s.getH (p / 3) else none)

/-- The same at every place. -/
def Same (s s' : St0 E N) : Prop := ∀ p, look s p = look s' p

theorem look_T {n : Nat} (h : look s (3 * n) = look s' (3 * n)) : s.getT n = s'.getT n := by
  have h0 : (3 * n) % 3 = 0 := by omega
  have h1 : (3 * n) / 3 = n := by omega
  have := congrArg (fun x => x.1) h
  simpa [look, h0, h1] using this
theorem look_B {n : Nat} (h : look s (3 * n + 1) = look s' (3 * n + 1)) : s.getB n = s'.getB n := by
  have h0 : (3 * n + 1) % 3 = 1 := by omega
  have h1 : (3 * n + 1) / 3 = n := by omega
  have := congrArg (fun x => x.2.1) h
  simpa [look, h0, h1] using this
theorem look_H {n : Nat} (h : look s (3 * n + 2) = look s' (3 * n + 2)) : s.getH n = s'.getH n := by
  have h0 : (3 * n + 2) % 3 = 2 := by omega
  have h1 : (3 * n + 2) / 3 = n := by omega
  have := congrArg (fun x => x.2.2) h
  simpa [look, h0, h1] using this

theorem Same.T (h : Same s s') (n : Nat) : s.getT n = s'.getT n := look_T (h _)
theorem Same.B (h : Same s s') (n : Nat) : s.getB n = s'.getB n := look_B (h _)
theorem Same.H (h : Same s s') (n : Nat) : s.getH n = s'.getH n := look_H (h _)
theorem Same.refl (s : St0 E N) : Same s s := fun _ => rfl
theorem Same.symm (h : Same s s') : Same s' s := fun p => (h p).symm
theorem Same.trans (h : Same s s') (k : Same s' s2) : Same s s2 := fun p => (h p).trans (k p)
theorem Same.sub (h : Same s s') : Sub s s' := Sub.of_same (fun n => (h.B n).symm) (fun n => (h.H n).symm)
theorem Same.of (hT : ∀ n, s.getT n = s'.getT n) (hB : ∀ n, s.getB n = s'.getB n) (hH : ∀ n, s.getH n = s'.getH n) : Same s s' := fun p => by
  simp only [look, hT, hB, hH]

theorem Sim.same (hs : Sim P n0 nt β σ s a w) (h : Same s s') : Sim P n0 nt β σ s' a w :=
  ⟨hs.n0le, hs.size, fun n tv hn => by
    rw [← h.T] at hn
    rcases hs.T n tv hn with ⟨h1, h2⟩ | h1
    · exact .inl ⟨h1, (h.sub.ext P (fun _ => False) β σ w).relAV (fun _ _ h => h) h2⟩
    · exact .inr h1, h.sub.mem hs.M⟩
theorem Fresh.same {n : Nat} (hf : Fresh a s n) (h : Same s s') : Fresh a s' n :=
  ⟨fun k tv hk => hf.t k tv (by rw [h.T]; exact hk), fun k e hk => hf.b k e (by rw [h.B]; exact hk), fun k e hk => hf.h k e (by rw [h.H]; exact hk)⟩
theorem GI.same {done : List Nat} (gi : GI s done) (h : Same s s') : GI s' done := fun n tv hn => gi n tv (by rw [h.T]; exact hn)
theorem Post.same {L : Nat} {D : Nat → Prop} {a' : Act} (p : Post P n0 nt L D β σ s a w β' σ' s' a' w') (h : Same s' s2) : Post P n0 nt L D β σ s a w β' σ' s2 a' w' :=
  ⟨p.sim.same h, (p.ext.trans (h.sub.ext P (fun _ => False) β' σ' w')).weaken (fun n hn => hn.elim (fun h => h) (fun h => h.elim)), fun n e he => p.cleanB n e (by rw [h.B]; exact he), fun n e he => p.cleanH n e (by rw [h.H]; exact he), p.defers, p.tmps⟩

theorem testBit_bitOf {k p : Nat} : (bitOf k).testBit p = true ↔ k = p := by
  unfold bitOf
  rw [Nat.testBit_two_pow]
  simp
theorem testBit_maskOf (f : Nat → Nat) {α : Type} : ∀ (l : List (Nat × α)) (p : Nat), (maskOf f l).testBit p = true ↔ ∃ n, n ∈ l.map (·.1) ∧ f n = p
  | [], p => by simp [maskOf]
  | (n, v) :: l, p => by
    simp only [maskOf, Nat.testBit_or, Bool.or_eq_true, testBit_bitOf, testBit_maskOf f l p, List.map_cons, List.mem_cons]
    constructor
    · rintro (h | ⟨m, h1, h2⟩)
      · exact ⟨n, .inl rfl, h⟩
      · exact ⟨m, .inr h1, h2⟩
    · rintro ⟨m, rfl | h1, h2⟩
      · exact .inl h2
      · exact .inr ⟨m, h1, h2⟩
theorem testBit_mask {wr : Wr (std E N)} {p : Nat} : wr.mask.testBit p = true ↔ (∃ n, n ∈ wr.ts.map (·.1) ∧ 3 * n = p) ∨ (∃ n, n ∈ wr.bs.map (·.1) ∧ 3 * n + 1 = p) ∨ (∃ n, n ∈ wr.hs.map (·.1) ∧ 3 * n + 2 = p) := by
  simp only [Wr.mask, Nat.testBit_or, Bool.or_eq_true, testBit_maskOf, or_assoc]

theorem applyT_not : ∀ {ts : List (Nat × Option (TV (std E N)))} {t : TM (TV (std E N))} {n : Nat}, n ∉ ts.map (·.1) → getTM (State.applyT t ts) n = getTM t n
  | [], t, n, _ => rfl
  | (k, v) :: r, t, n, h => by
    simp only [List.map_cons, List.mem_cons, not_or] at h
    simp only [State.applyT]
    rw [applyT_not h.2, getTM_setTM, if_neg (fun e => h.1 e.1)]
theorem applyT_in : ∀ {ts : List (Nat × Option (TV (std E N)))} {t t' : TM (TV (std E N))} {n : Nat}, n ∈ ts.map (·.1) → getTM (State.applyT t ts) n = getTM (State.applyT t' ts) n
  | [], t, t', n, h => by simp at h
  | (k, v) :: r, t, t', n, h => by
    simp only [State.applyT]
    by_cases hr : n ∈ r.map (·.1)
    · exact applyT_in hr
    · rw [applyT_not hr, applyT_not hr, getTM_setTM, getTM_setTM]
      have hk : n = k := by
        simp only [List.map_cons, List.mem_cons] at h
        exact h.resolve_right hr
      by_cases hb : k < tmMax
      · rw [if_pos ⟨hk, hb⟩, if_pos ⟨hk, hb⟩]
      · rw [if_neg (fun e => hb e.2), if_neg (fun e => hb e.2)]
        have hn : Nat.blt n tmMax = false := by
          cases h : Nat.blt n tmMax with
          | false => rfl
          | true => exact (hb (hk ▸ natBlt_iff.1 h)).elim
        unfold getTM; rw [hn]
theorem applyA_in {α : Type} : ∀ {ts : List (Nat × Option α)} {t t' : List (Nat × α)} {n : Nat}, n ∈ ts.map (·.1) → alGet (applyA t ts) n = alGet (applyA t' ts) n
  | [], t, t', n, h => by simp at h
  | (k, v) :: r, t, t', n, h => by
    simp only [applyA]
    by_cases hr : n ∈ r.map (·.1)
    · exact applyA_in hr
    · rw [applyA_not hr, applyA_not hr, alGet_alSet, alGet_alSet]
      have hk : n = k := by
        simp only [List.map_cons, List.mem_cons] at h
        exact h.resolve_right hr
      rw [if_pos hk, if_pos hk]

theorem look_apply_not {wr : Wr (std E N)} {p : Nat} (h : ¬ wr.mask.testBit p = true) : look (s.apply wr) p = look s p := by
  rw [testBit_mask] at h
  have hT : p % 3 = 0 → (s.apply wr).getT (p / 3) = s.getT (p / 3) := fun hp => applyT_not (fun hm => h (.inl ⟨p / 3, hm, by omega⟩))
  have hB : p % 3 = 1 → (s.apply wr).getB (p / 3) = s.getB (p / 3) := fun hp => applyA_not (fun hm => h (.inr (.inl ⟨p / 3, hm, by omega⟩)))
  have hH : p % 3 = 2 → (s.apply wr).getH (p / 3) = s.getH (p / 3) := fun hp => applyA_not (fun hm => h (.inr (.inr ⟨p / 3, hm, by omega⟩)))
  rcases (by omega : p % 3 = 0 ∨ p % 3 = 1 ∨ p % 3 = 2) with hp | hp | hp
  · simp [look, hp, hT hp]
  · simp [look, hp, hB hp]
  · simp [look, hp, hH hp]
theorem look_apply_in {wr : Wr (std E N)} {p : Nat} (h : wr.mask.testBit p = true) (s s' : St0 E N) : look (s.apply wr) p = look (s'.apply wr) p := by
  rw [testBit_mask] at h
  rcases h with ⟨n, hn, rfl⟩ | ⟨n, hn, rfl⟩ | ⟨n, hn, rfl⟩
  · have h0 : (3 * n) % 3 = 0 := by omega
    have h1 : (3 * n) / 3 = n := by omega
    have : (s.apply wr).getT n = (s'.apply wr).getT n := applyT_in (t := s.tm) (t' := s'.tm) hn
    simpa [look, h0, h1] using this
  · have h0 : (3 * n + 1) % 3 = 1 := by omega
    have h1 : (3 * n + 1) / 3 = n := by omega
    have : (s.apply wr).getB n = (s'.apply wr).getB n := applyA_in (t := s.bx) (t' := s'.bx) hn
    simpa [look, h0, h1] using this
  · have h0 : (3 * n + 2) % 3 = 2 := by omega
    have h1 : (3 * n + 2) / 3 = n := by omega
    have : (s.apply wr).getH n = (s'.apply wr).getH n := applyA_in (t := s.hp) (t' := s'.hp) hn
    simpa [look, h0, h1] using this

theorem run_mono {α : Type} : ∀ {r : RM (std E N) α} {m m' : Nat} {x : α}, RM.run s r m = .ok (x, m') → ∀ p, m.testBit p = true → m'.testBit p = true := by
  intro r
  induction r with
  | ret v => intro m m' x h p hp; simp only [RM.run] at h; cases h; exact hp
  | fail w => intro m m' x h; simp only [RM.run] at h; cases h
  | t n f ih => intro m m' x h p hp; exact ih _ h p (by rw [Nat.testBit_or, hp]; rfl)
  | b n f ih => intro m m' x h p hp; exact ih _ h p (by rw [Nat.testBit_or, hp]; rfl)
  | h n f ih => intro m m' x h p hp; exact ih _ h p (by rw [Nat.testBit_or, hp]; rfl)

theorem run_agree {α : Type} : ∀ {r : RM (std E N) α} {m m' : Nat} {x : α}, RM.run s r m = .ok (x, m') → (∀ p, m'.testBit p = true → look s p = look s' p) → RM.run s' r m = .ok (x, m') := by
  intro r
  induction r with
  | ret v => intro m m' x h _; exact h
  | fail w => intro m m' x h _; simp only [RM.run] at h; cases h
  | t n f ih =>
    intro m m' x h ha
    have hb : m'.testBit (3 * n) = true := run_mono (r := f (s.getT n)) h _ (by rw [Nat.testBit_or, testBit_bitOf.2 rfl, Bool.or_true])
    simp only [RM.run] at h ⊢
    rw [← look_T (ha _ hb)]
    exact ih _ h ha
  | b n f ih =>
    intro m m' x h ha
    have hb : m'.testBit (3 * n + 1) = true := run_mono (r := f (s.getB n)) h _ (by rw [Nat.testBit_or, testBit_bitOf.2 rfl, Bool.or_true])
    simp only [RM.run] at h ⊢
    rw [← look_B (ha _ hb)]
    exact ih _ h ha
  | h n f ih =>
    intro m m' x h ha
    have hb : m'.testBit (3 * n + 2) = true := run_mono (r := f (s.getH n)) h _ (by rw [Nat.testBit_or, testBit_bitOf.2 rfl, Bool.or_true])
    simp only [RM.run] at h ⊢
    rw [← look_H (ha _ hb)]
    exact ih _ h ha

/-- The record of an operation. -/
structure Rc (E : Env) (N : Nat) where
  id : Nat
  rd : Nat
  wr : Wr (std E N)

/-- The state behind some of the operations, in the order of the text. -/
def stD (D : Nat → Bool) : Nat → List (Rc E N) → St0 E N → St0 E N
  | _, [], s => s
  | i, t :: tr, s => stD D (i + 1) tr (match D i with | true => s.apply t.wr | false => s)

theorem look_stD {D D' : Nat → Bool} {p : Nat} : ∀ {tr : List (Rc E N)} {i : Nat} {s s' : St0 E N}, look s p = look s' p → (∀ (k : Nat) (t : Rc E N), tr[k]? = some t → t.wr.mask.testBit p = true → D (i + k) = D' (i + k)) →
    look (stD D i tr s) p = look (stD D' i tr s') p
  | [], i, s, s', h, _ => h
  | t :: tr, i, s, s', h, hd => by
    simp only [stD]
    refine look_stD ?_ (fun k u hk hu => by have := hd (k + 1) u (by simpa using hk) hu; rw [show i + 1 + k = i + (k + 1) by omega]; exact this)
    by_cases hb : t.wr.mask.testBit p = true
    · have := hd 0 t rfl hb
      rw [Nat.add_zero] at this
      rw [← this]
      cases D i with
      | true => exact look_apply_in hb _ _
      | false => exact h
    · have e1 : look (match D i with | true => s.apply t.wr | false => s) p = look s p := by
        cases D i with
        | true => exact look_apply_not hb
        | false => rfl
      have e2 : look (match D' i with | true => s'.apply t.wr | false => s') p = look s' p := by
        cases D' i with
        | true => exact look_apply_not hb
        | false => rfl
      rw [e1, e2]; exact h

theorem look_stD_last {D : Nat → Bool} {p : Nat} {t : Rc E N} (s0 : St0 E N) : ∀ {tr : List (Rc E N)} {i k : Nat} {s : St0 E N}, tr[k]? = some t → D (i + k) = true → t.wr.mask.testBit p = true →
    (∀ (j : Nat) (u : Rc E N), k < j → tr[j]? = some u → u.wr.mask.testBit p = true → D (i + j) = false) → look (stD D i tr s) p = look (s0.apply t.wr) p
  | [], i, k, s, hk, _, _, _ => by simp at hk
  | u :: tr, i, 0, s, hk, hd, hb, hl => by
    simp at hk; subst hk
    rw [Nat.add_zero] at hd
    simp only [stD, hd]
    have := look_stD (D := D) (D' := fun _ => false) (p := p) (tr := tr) (i := i + 1) (s := s.apply u.wr) (s' := s0.apply u.wr) (look_apply_in hb _ _) (fun k v hk hv => by
      have := hl (k + 1) v (by omega) (by simpa using hk) hv
      rw [show i + 1 + k = i + (k + 1) by omega]; exact this)
    rw [this]
    have none : ∀ (tr : List (Rc E N)) (i : Nat) (s : St0 E N), stD (fun _ => false) i tr s = s := fun tr => by
      induction tr with
      | nil => intro i s; rfl
      | cons v tr ih => intro i s; exact ih _ _
    rw [none]
  | u :: tr, i, k + 1, s, hk, hd, hb, hl => by
    simp only [stD]
    exact look_stD_last s0 (tr := tr) (i := i + 1) (k := k) (by simpa using hk) (by rw [show i + 1 + k = i + (k + 1) by omega]; exact hd) hb (fun j v hj hv hp => by
      have := hl (j + 1) v (by omega) (by simpa using hv) hp
      rw [show i + 1 + j = i + (j + 1) by omega]; exact this)

/-- The operation gives this at that state. -/
def OpGood (P : Program) (cfg : Cfg) (all : List Oper) (o : Oper) (s : St0 E N) (t : Rc E N) : Prop :=
  (∃ as, RM.run s (opStep (O := std E N) P cfg all o t.id) 0 = .ok (.plain as t.wr, t.rd) ∧ ∀ b ∈ as, b = true) ∨
  (∃ (g : Option Bool) (f : FuncId) (fns : List Nat) (ls dm : List SLeaf) (next : List PV → Option (Wr (std E N))) (c : List PV), RM.run s (opStep (O := std E N) P cfg all o t.id) 0 = .ok (.call g f fns ls dm next, t.rd) ∧
    (match g with | none => E f fns (ls.map Leaf.pv) | some b => if b then E f fns (ls.map Leaf.pv) else some (dm.map Leaf.pv)) = some c ∧ next c = some t.wr)

theorem OpGood.agree {all : List Oper} {o : Oper} {t : Rc E N} (h : OpGood P cfg all o s t) (ha : ∀ p, t.rd.testBit p = true → look s p = look s' p) : OpGood P cfg all o s' t := by
  rcases h with ⟨as, h1, h2⟩ | ⟨g, f, fns, ls, dm, next, c, h1, h2, h3⟩
  · exact .inl ⟨as, run_agree h1 ha, h2⟩
  · exact .inr ⟨g, f, fns, ls, dm, next, c, run_agree h1 ha, h2, h3⟩

def TrOK (P : Program) (cfg : Cfg) (all : List Oper) : List Oper → Nat → St0 E N → List (Rc E N) → Prop
  | [], _, _, [] => True
  | o :: r, id, s, t :: tr => t.id = id ∧ OpGood P cfg all o s t ∧ TrOK P cfg all r (id + cntOf P o) (s.apply t.wr) tr
  | _, _, _, _ => False

theorem TrOK.len {all : List Oper} : ∀ {r : List Oper} {id : Nat} {s : St0 E N} {tr : List (Rc E N)}, TrOK P cfg all r id s tr → tr.length = r.length
  | [], _, _, [], _ => rfl
  | o :: r, _, _, t :: tr, h => by simp [h.2.2.len]
  | [], _, _, _ :: _, h => h.elim
  | _ :: _, _, _, [], h => h.elim

theorem TrOK.good {all : List Oper} : ∀ {r : List Oper} {id i : Nat} {s : St0 E N} {tr : List (Rc E N)}, TrOK P cfg all r id s tr → ∀ (k : Nat) (o : Oper) (t : Rc E N), r[k]? = some o → tr[k]? = some t → OpGood P cfg all o (stD (fun j => decide (j < i + k)) i tr s) t
  | [], _, _, _, [], _, k, o, t, hk, _ => by simp at hk
  | o :: r, id, i, s, t :: tr, h, 0, o', t', hk, ht => by
    simp at hk ht; subst hk; subst ht
    have none : ∀ (tr : List (Rc E N)) (j : Nat) (s : St0 E N), i ≤ j → stD (fun j => decide (j < i + 0)) j tr s = s := fun tr => by
      induction tr with
      | nil => intro j s _; rfl
      | cons v tr ih =>
        intro j s hj
        simp only [stD]
        rw [show decide (j < i + 0) = false by simp; omega]
        exact ih _ _ (by omega)
    rw [none _ _ _ (Nat.le_refl _)]
    exact h.2.1
  | o :: r, id, i, s, t :: tr, h, k + 1, o', t', hk, ht => by
    simp only [stD]
    rw [show decide (i < i + (k + 1)) = true by simp]
    have := TrOK.good (i := i + 1) h.2.2 k o' t' (by simpa using hk) (by simpa using ht)
    rw [show i + 1 + k = i + (k + 1) by omega] at this
    exact this
  | [], _, _, _, _ :: _, h, _, _, _, _, _ => h.elim
  | _ :: _, _, _, _, [], h, _, _, _, _, _ => h.elim

/-- Names come in rising order. -/
theorem TrOK.ids {all : List Oper} : ∀ {r : List Oper} {id : Nat} {s : St0 E N} {tr : List (Rc E N)}, TrOK P cfg all r id s tr → (∀ (k : Nat) (t : Rc E N), tr[k]? = some t → id ≤ t.id) ∧
    ∀ (i j : Nat) (o : Oper) (t u : Rc E N), i < j → r[i]? = some o → tr[i]? = some t → tr[j]? = some u → t.id + cntOf P o ≤ u.id
  | [], _, _, [], _ => ⟨fun k t h => by simp at h, fun i j o t u _ h => by simp at h⟩
  | o :: r, id, s, t :: tr, h => by
    obtain ⟨h1, h2⟩ := h.2.2.ids
    refine ⟨fun k u hk => ?_, fun i j o' t' u hij ho ht hu => ?_⟩
    · cases k with
      | zero => simp at hk; subst hk; exact Nat.le_of_eq h.1.symm
      | succ k => have := h1 k u (by simpa using hk); omega
    · cases j with
      | zero => omega
      | succ j =>
        cases i with
        | zero =>
          simp at ho ht; subst ho; subst ht
          have := h1 j u (by simpa using hu)
          rw [h.1]; exact this
        | succ i => exact h2 i j o' t' u (by omega) (by simpa using ho) (by simpa using ht) (by simpa using hu)
  | [], _, _, _ :: _, h => h.elim
  | _ :: _, _, _, [], h => h.elim

theorem runOps_tr (inl : Inl E N) {all : List Oper} {r : List PV} : ∀ (rest : List Oper) (id : Nat) (s : St0 E N) (ms : List (Nat × Nat)) (k : St0 E N → List (Nat × Nat) → Option (List PV)), runOps (O := std E N) P cfg inl all true rest id s ms k = some r →
    ∃ (tr : List (Rc E N)) (id' : Nat), TrOK P cfg all rest id s tr ∧ k { stD (fun _ => true) 0 tr s with st := id' } (ms ++ tr.map fun t => (t.rd, t.wr.mask)) = some r ∧ id ≤ id' ∧ ∀ (i : Nat) (o : Oper) (t : Rc E N), rest[i]? = some o → tr[i]? = some t → t.id + cntOf P o ≤ id'
  | [], id, s, ms, k, h => ⟨[], id, trivial, by simpa [runOps, stD] using h, Nat.le_refl _, fun i o t ho => by simp at ho⟩
  | o :: rest, id, s, ms, k, h => by
    have shift : ∀ (tr : List (Rc E N)) (i j : Nat) (s : St0 E N), stD (fun _ => true) i tr s = stD (fun _ => true) j tr s := fun tr => by
      induction tr with
      | nil => intro i j s; rfl
      | cons t tr ih => intro i j s; exact ih _ _ _
    have next : ∀ (wr : Wr (std E N)) (rd : Nat), OpGood P cfg all o s ⟨id, rd, wr⟩ → runOps (O := std E N) P cfg inl all true rest (id + cntOf P o) (s.apply wr) (ms ++ [(rd, wr.mask)]) k = some r → ∃ (tr : List (Rc E N)) (id' : Nat), TrOK P cfg all (o :: rest) id s tr ∧ k { stD (fun _ => true) 0 tr s with st := id' } (ms ++ tr.map fun t => (t.rd, t.wr.mask)) = some r ∧ id ≤ id' ∧ ∀ (i : Nat) (o' : Oper) (t : Rc E N), (o :: rest)[i]? = some o' → tr[i]? = some t → t.id + cntOf P o' ≤ id' := fun wr rd hg hr => by
      obtain ⟨tr, id', h1, h2, h3, h4⟩ := runOps_tr inl rest _ _ _ _ hr
      refine ⟨⟨id, rd, wr⟩ :: tr, id', ⟨rfl, hg, h1⟩, ?_, by omega, fun i o' t ho ht => ?_⟩
      · simp only [stD]
        rw [shift _ _ 0]
        simpa using h2
      · cases i with
        | zero => simp at ho ht; subst ho; subst ht; exact h3
        | succ i => exact h4 i o' t (by simpa using ho) (by simpa using ht)
    unfold runOps at h
    split at h
    · cases h
    · rename_i as wr rd hrun
      obtain ⟨has, h2⟩ := assertAll_ok h
      exact next wr rd (.inl ⟨as, hrun, has⟩) h2
    · rename_i g f fns args dm nx rd hrun
      obtain ⟨c, hc, h2⟩ := Option.bind_eq_some_iff.1 h
      split at h2
      · cases h2
      · rename_i wr hn
        refine next wr rd (.inr ⟨g, f, fns, args, dm, nx, c, hrun, ?_, hn⟩) h2
        cases g with
        | none => exact hc
        | some b => cases b <;> exact hc
    · cases h

end
end Go.Px
