/- Part 5. -/
import Derived.Test.YtibhmjjjbblhmaaGreatPart04
set_option linter.unusedVariables false
set_option linter.unusedSimpArgs false
section
namespace Go.Px
section
variable {E : Env} {N : Nat} {P : Program} {cfg : Cfg} {n0 n0' : Nz} {nt : Nat} {β β' : Nat → Option Nat} {σ σ' : Nat → Option (Nat × Nat)} {s s' s2 : St0 E N} {a : Act} {w w' : World}
def Bw (s : St0 E N) (p : Nat) : Option (TV (std E N)) × Option (BEnt (std E N)) × Option (HEnt (std E N)) :=
  (if p % 3 = 0 then s.getT (p / 3) else none, if p % 3 = 1 then s.getB (p / 3) else none, if p % 3 = 2 then s.getH (p / 3) else none)
def Same (s s' : St0 E N) : Prop := ∀ p, Bw s p = Bw s' p
theorem fe {n : Nat} (h : Bw s (3 * n) = Bw s' (3 * n)) : s.getT n = s'.getT n := by
 have h0 : (3 * n) % 3 = 0 := by omega
 have h1 : (3 * n) / 3 = n := by omega
 have := congrArg (fun x => x.1) h
 simpa [Bw, h0, h1] using this
theorem gS {n : Nat} (h : Bw s (3 * n + 1) = Bw s' (3 * n + 1)) : s.getB n = s'.getB n := by
 have h0 : (3 * n + 1) % 3 = 1 := by omega
 have h1 : (3 * n + 1) / 3 = n := by omega
 have := congrArg (fun x => x.2.1) h
 simpa [Bw, h0, h1] using this
theorem gE {n : Nat} (h : Bw s (3 * n + 2) = Bw s' (3 * n + 2)) : s.getH n = s'.getH n := by
 have h0 : (3 * n + 2) % 3 = 2 := by omega
 have h1 : (3 * n + 2) / 3 = n := by omega
 have := congrArg (fun x => x.2.2) h
 simpa [Bw, h0, h1] using this
theorem Same.T (h : Same s s') (n : Nat) : s.getT n = s'.getT n := fe (h _)
theorem Same.B (h : Same s s') (n : Nat) : s.getB n = s'.getB n := gS (h _)
theorem Same.H (h : Same s s') (n : Nat) : s.getH n = s'.getH n := gE (h _)
theorem Same.refl (s : St0 E N) : Same s s := fun _ => rfl
theorem Same.symm (h : Same s s') : Same s' s := fun p => (h p).symm
theorem Same.trans (h : Same s s') (k : Same s' s2) : Same s s2 := fun p => (h p).trans (k p)
theorem Same.sub (h : Same s s') : Sub s s' := Sub.of_same (fun n => (h.B n).symm) (fun n => (h.H n).symm)
theorem Same.of (hT : ∀ n, s.getT n = s'.getT n) (hB : ∀ n, s.getB n = s'.getB n) (hH : ∀ n, s.getH n = s'.getH n) : Same s s' := fun p => by
 simp only [Bw, hT, hB, hH]
theorem Sim.same (hs : Sim P n0 nt β σ s a w) (h : Same s s') : Sim P n0 nt β σ s' a w :=
 ⟨hs.n0le, hs.size, fun n tv hn => by
  rw [← h.T] at hn
  rcases hs.T n tv hn with ⟨h1, h2⟩ | h1
  ·exact .inl ⟨h1, (h.sub.ext P (fun _ => False) β σ w).relAV (fun _ _ h => h) h2⟩
  ·exact .inr h1, h.sub.mem hs.M⟩
theorem Fresh.same {n : Nat} (hf : Fresh a s n) (h : Same s s') : Fresh a s' n :=
 ⟨fun k tv hk => hf.t k tv (by rw [h.T]; exact hk), fun k e hk => hf.b k e (by rw [h.B]; exact hk), fun k e hk => hf.h k e (by rw [h.H]; exact hk)⟩
theorem GI.same {done : List Nat} (gi : GI s done) (h : Same s s') : GI s' done := fun n tv hn => gi n tv (by rw [h.T]; exact hn)
theorem Post.same {L : Nat} {D : Nat → Prop} {a' : Act} (p : Post P n0 nt L D β σ s a w β' σ' s' a' w') (h : Same s' s2) : Post P n0 nt L D β σ s a w β' σ' s2 a' w' :=
 ⟨p.sim.same h, (p.ext.trans (h.sub.ext P (fun _ => False) β' σ' w')).weaken (fun n hn => hn.elim (fun h => h) (fun h => h.elim)), fun n e he => p.cleanB n e (by rw [h.B]; exact he), fun n e he => p.cleanH n e (by rw [h.H]; exact he), p.defers, p.tmps⟩
theorem FB {k p : Nat} : (FW k).testBit p = true ↔ k = p := by
 unfold FW
 rw [Nat.testBit_two_pow]
 simp
theorem R4 (f : Nat → Nat) {α : Type} : ∀ (l : List (Nat × α)) (p : Nat), (Pl f l).testBit p = true ↔ ∃ n, n ∈ l.map (·.1) ∧ f n = p
 | [], p => by simp [Pl]
 | (n, v) :: l, p => by
  simp only [Pl, Nat.testBit_or, Bool.or_eq_true, FB, R4 f l p, List.map_cons, List.mem_cons]
  constructor
  ·rintro (h | ⟨m, h1, h2⟩)
   ·exact ⟨n, .inl rfl, h⟩
   ·exact ⟨m, .inr h1, h2⟩
  ·rintro ⟨m, rfl | h1, h2⟩
   ·exact .inl h2
   ·exact .inr ⟨m, h1, h2⟩
theorem UP {wr : Wr (std E N)} {p : Nat} : wr.mask.testBit p = true ↔ (∃ n, n ∈ wr.ts.map (·.1) ∧ 3 * n = p) ∨ (∃ n, n ∈ wr.bs.map (·.1) ∧ 3 * n + 1 = p) ∨ (∃ n, n ∈ wr.hs.map (·.1) ∧ 3 * n + 2 = p) := by
 simp only [Wr.mask, Nat.testBit_or, Bool.or_eq_true, R4, or_assoc]
theorem O7 : ∀ {ts : List (Nat × Option (TV (std E N)))} {t : TM (TV (std E N))} {n : Nat}, n ∉ ts.map (·.1) → CQ (State.applyT t ts) n = CQ t n
 | [], t, n, _ => rfl
 | (k, v) :: r, t, n, h => by
  simp only [List.map_cons, List.mem_cons, not_or] at h
  simp only [State.applyT]
  rw [O7 h.2, DA, if_neg (fun e => h.1 e.1)]
theorem Zj : ∀ {ts : List (Nat × Option (TV (std E N)))} {t t' : TM (TV (std E N))} {n : Nat}, n ∈ ts.map (·.1) → CQ (State.applyT t ts) n = CQ (State.applyT t' ts) n
 | [], t, t', n, h => by simp at h
 | (k, v) :: r, t, t', n, h => by
  simp only [State.applyT]
  by_cases hr : n ∈ r.map (·.1)
  ·exact Zj hr
  ·rw [O7 hr, O7 hr, DA, DA]
   have hk : n = k := by
    simp only [List.map_cons, List.mem_cons] at h
    exact h.resolve_right hr
   by_cases hb : k < Cv
   ·rw [if_pos ⟨hk, hb⟩, if_pos ⟨hk, hb⟩]
   ·rw [if_neg (fun e => hb e.2), if_neg (fun e => hb e.2)]
    have hn : Nat.blt n Cv = false := by
     cases h : Nat.blt n Cv with
     | false => rfl
     | true => exact (hb (hk ▸ BL.1 h)).elim
    unfold CQ; rw [hn]
theorem UV {α : Type} : ∀ {ts : List (Nat × Option α)} {t t' : List (Nat × α)} {n : Nat}, n ∈ ts.map (·.1) → AE (A5 t ts) n = AE (A5 t' ts) n
 | [], t, t', n, h => by simp at h
 | (k, v) :: r, t, t', n, h => by
  simp only [A5]
  by_cases hr : n ∈ r.map (·.1)
  ·exact UV hr
  ·rw [C9 hr, C9 hr, BM, BM]
   have hk : n = k := by
    simp only [List.map_cons, List.mem_cons] at h
    exact h.resolve_right hr
   rw [if_pos hk, if_pos hk]
theorem Ml {wr : Wr (std E N)} {p : Nat} (h : ¬ wr.mask.testBit p = true) : Bw (s.apply wr) p = Bw s p := by
 rw [UP] at h
 have hT : p % 3 = 0 → (s.apply wr).getT (p / 3) = s.getT (p / 3) := fun hp => O7 (fun hm => h (.inl ⟨p / 3, hm, by omega⟩))
 have hB : p % 3 = 1 → (s.apply wr).getB (p / 3) = s.getB (p / 3) := fun hp => C9 (fun hm => h (.inr (.inl ⟨p / 3, hm, by omega⟩)))
 have hH : p % 3 = 2 → (s.apply wr).getH (p / 3) = s.getH (p / 3) := fun hp => C9 (fun hm => h (.inr (.inr ⟨p / 3, hm, by omega⟩)))
 rcases (by omega : p % 3 = 0 ∨ p % 3 = 1 ∨ p % 3 = 2) with hp | hp | hp
 ·simp [Bw, hp, hT hp]
 ·simp [Bw, hp, hB hp]
 ·simp [Bw, hp, hH hp]
theorem TT {wr : Wr (std E N)} {p : Nat} (h : wr.mask.testBit p = true) (s s' : St0 E N) : Bw (s.apply wr) p = Bw (s'.apply wr) p := by
 rw [UP] at h
 rcases h with ⟨n, hn, rfl⟩ | ⟨n, hn, rfl⟩ | ⟨n, hn, rfl⟩
 ·have h0 : (3 * n) % 3 = 0 := by omega
  have h1 : (3 * n) / 3 = n := by omega
  have : (s.apply wr).getT n = (s'.apply wr).getT n := Zj (t := s.tm) (t' := s'.tm) hn
  simpa [Bw, h0, h1] using this
 ·have h0 : (3 * n + 1) % 3 = 1 := by omega
  have h1 : (3 * n + 1) / 3 = n := by omega
  have : (s.apply wr).getB n = (s'.apply wr).getB n := UV (t := s.bx) (t' := s'.bx) hn
  simpa [Bw, h0, h1] using this
 ·have h0 : (3 * n + 2) % 3 = 2 := by omega
  have h1 : (3 * n + 2) / 3 = n := by omega
  have : (s.apply wr).getH n = (s'.apply wr).getH n := UV (t := s.hp) (t' := s'.hp) hn
  simpa [Bw, h0, h1] using this
theorem Wf {α : Type} : ∀ {r : RM (std E N) α} {m m' : Nat} {x : α}, RM.run s r m = .ok (x, m') → ∀ p, m.testBit p = true → m'.testBit p = true := by
 intro r
 induction r with
 | ret v => intro m m' x h p hp; simp only [RM.run] at h; cases h; exact hp
 | fail w => intro m m' x h; simp only [RM.run] at h; cases h
 | t n f ih => intro m m' x h p hp; exact ih _ h p (by rw [Nat.testBit_or, hp]; rfl)
 | b n f ih => intro m m' x h p hp; exact ih _ h p (by rw [Nat.testBit_or, hp]; rfl)
 | h n f ih => intro m m' x h p hp; exact ih _ h p (by rw [Nat.testBit_or, hp]; rfl)
theorem Zc {α : Type} : ∀ {r : RM (std E N) α} {m m' : Nat} {x : α}, RM.run s r m = .ok (x, m') → (∀ p, m'.testBit p = true → Bw s p = Bw s' p) → RM.run s' r m = .ok (x, m') := by
 intro r
 induction r with
 | ret v => intro m m' x h _; exact h
 | fail w => intro m m' x h _; simp only [RM.run] at h; cases h
 | t n f ih =>
  intro m m' x h ha
  have hb : m'.testBit (3 * n) = true := Wf (r := f (s.getT n)) h _ (by rw [Nat.testBit_or, FB.2 rfl, Bool.or_true])
  simp only [RM.run] at h ⊢
  rw [← fe (ha _ hb)]
  exact ih _ h ha
 | b n f ih =>
  intro m m' x h ha
  have hb : m'.testBit (3 * n + 1) = true := Wf (r := f (s.getB n)) h _ (by rw [Nat.testBit_or, FB.2 rfl, Bool.or_true])
  simp only [RM.run] at h ⊢
  rw [← gS (ha _ hb)]
  exact ih _ h ha
 | h n f ih =>
  intro m m' x h ha
  have hb : m'.testBit (3 * n + 2) = true := Wf (r := f (s.getH n)) h _ (by rw [Nat.testBit_or, FB.2 rfl, Bool.or_true])
  simp only [RM.run] at h ⊢
  rw [← gE (ha _ hb)]
  exact ih _ h ha
structure Rc (E : Env) (N : Nat) where
 id : Nat
 rd : Nat
 wr : Wr (std E N)
def stD (D : Nat → Bool) : Nat → List (Rc E N) → St0 E N → St0 E N
 | _, [], s => s
 | i, t :: tr, s => stD D (i + 1) tr (match D i with | true => s.apply t.wr | false => s)
theorem P4 {D D' : Nat → Bool} {p : Nat} : ∀ {tr : List (Rc E N)} {i : Nat} {s s' : St0 E N}, Bw s p = Bw s' p → (∀ (k : Nat) (t : Rc E N), tr[k]? = some t → t.wr.mask.testBit p = true → D (i + k) = D' (i + k)) →
    Bw (stD D i tr s) p = Bw (stD D' i tr s') p
  | [], i, s, s', h, _ => h
  | t :: tr, i, s, s', h, hd => by
    simp only [stD]
    refine P4 ?_ (fun k u hk hu => by have := hd (k + 1) u (by simpa using hk) hu; rw [show i + 1 + k = i + (k + 1) by omega]; exact this)
    by_cases hb : t.wr.mask.testBit p = true
    · have := hd 0 t rfl hb
      rw [Nat.add_zero] at this
      rw [← this]
      cases D i with
      | true => exact TT hb _ _
      | false => exact h
    · have e1 : Bw (match D i with | true => s.apply t.wr | false => s) p = Bw s p := by
        cases D i with
        | true => exact Ml hb
        | false => rfl
      have e2 : Bw (match D' i with | true => s'.apply t.wr | false => s') p = Bw s' p := by
        cases D' i with
        | true => exact Ml hb
        | false => rfl
      rw [e1, e2]; exact h
theorem TA {D : Nat → Bool} {p : Nat} {t : Rc E N} (s0 : St0 E N) : ∀ {tr : List (Rc E N)} {i k : Nat} {s : St0 E N}, tr[k]? = some t → D (i + k) = true → t.wr.mask.testBit p = true →
    (∀ (j : Nat) (u : Rc E N), k < j → tr[j]? = some u → u.wr.mask.testBit p = true → D (i + j) = false) → Bw (stD D i tr s) p = Bw (s0.apply t.wr) p
  | [], i, k, s, hk, _, _, _ => by simp at hk
  | u :: tr, i, 0, s, hk, hd, hb, hl => by
    simp at hk; subst hk
    rw [Nat.add_zero] at hd
    simp only [stD, hd]
    have := P4 (D := D) (D' := fun _ => false) (p := p) (tr := tr) (i := i + 1) (s := s.apply u.wr) (s' := s0.apply u.wr) (TT hb _ _) (fun k v hk hv => by
      have := hl (k + 1) v (by omega) (by simpa using hk) hv
      rw [show i + 1 + k = i + (k + 1) by omega]; exact this)
    rw [this]
    have none : ∀ (tr : List (Rc E N)) (i : Nat) (s : St0 E N), stD (fun _ => false) i tr s = s := fun tr => by
      induction tr with
      | nil => intro i s; rfl
      | cons v tr ih => intro i s; exact ih _ _
    rw [none]
  | u :: tr, i, k + 1, s, hk, hd, hb, hl => by
    simp only [stD]
    exact TA s0 (tr := tr) (i := i + 1) (k := k) (by simpa using hk) (by rw [show i + 1 + k = i + (k + 1) by omega]; exact hd) hb (fun j v hj hv hp => by
      have := hl (j + 1) v (by omega) (by simpa using hv) hp
      rw [show i + 1 + j = i + (j + 1) by omega]; exact this)
def OpGood (P : Program) (cfg : Cfg) (all : List Oper) (o : Oper) (s : St0 E N) (t : Rc E N) : Prop :=
  (∃ as, RM.run s (LC (O := std E N) P cfg all o t.id) 0 = .ok (.plain as t.wr, t.rd) ∧ ∀ b ∈ as, b = true) ∨
  (∃ (g : Option Bool) (f : FuncId) (fns : List Nat) (ls dm : List Ab) (next : List PV → Option (Wr (std E N))) (c : List PV), RM.run s (LC (O := std E N) P cfg all o t.id) 0 = .ok (.call g f fns ls dm next, t.rd) ∧
    (match g with | none => E f fns (ls.map Leaf.pv) | some b => if b then E f fns (ls.map Leaf.pv) else some (dm.map Leaf.pv)) = some c ∧ next c = some t.wr)
theorem OpGood.agree {all : List Oper} {o : Oper} {t : Rc E N} (h : OpGood P cfg all o s t) (ha : ∀ p, t.rd.testBit p = true → Bw s p = Bw s' p) : OpGood P cfg all o s' t := by
 rcases h with ⟨as, h1, h2⟩ | ⟨g, f, fns, ls, dm, next, c, h1, h2, h3⟩
 ·exact .inl ⟨as, Zc h1 ha, h2⟩
 ·exact .inr ⟨g, f, fns, ls, dm, next, c, Zc h1 ha, h2, h3⟩
def TrOK (P : Program) (cfg : Cfg) (all : List Oper) : List Oper → Nat → St0 E N → List (Rc E N) → Prop
 | [], _, _, [] => True
 | o :: r, id, s, t :: tr => t.id = id ∧ OpGood P cfg all o s t ∧ TrOK P cfg all r (id + BS P o) (s.apply t.wr) tr
 | _, _, _, _ => False
theorem TrOK.len {all : List Oper} : ∀ {r : List Oper} {id : Nat} {s : St0 E N} {tr : List (Rc E N)}, TrOK P cfg all r id s tr → tr.length = r.length
 | [], _, _, [], _ => rfl
 | o :: r, _, _, t :: tr, h => by simp [h.2.2.len]
 | [], _, _, _ :: _, h => h.elim
 | _ :: _, _, _, [], h => h.elim
theorem TrOK.good {all : List Oper} : ∀ {r : List Oper} {id i : Nat} {s : St0 E N} {tr : List (Rc E N)}, TrOK P cfg all r id s tr → ∀ (k : Nat) (o : Oper) (t : Rc E N), r[k]? = some o → tr[k]? = some t → OpGood P cfg all o (stD (fun j => decide (j < i + k)) i tr s) t
 | [], _, _, _, [], _, k, o, t, hk, _ => by simp at hk
 | o :: r, id, i, s, t :: tr, h, 0, o', t', hk, ht => by
  simp at hk ht; subst hk; subst ht
  have none : ∀ (tr : List (Rc E N)) (j : Nat) (s : St0 E N), i ≤ j → stD (fun j => decide (j < i + 0)) j tr s = s := fun tr => by
   induction tr with
   | nil => intro j s _; rfl
   | cons v tr ih =>
    intro j s hj
    simp only [stD]
    rw [show decide (j < i + 0) = false by simp; omega]
    exact ih _ _ (by omega)
  rw [none _ _ _ (Nat.le_refl _)]
  exact h.2.1
 | o :: r, id, i, s, t :: tr, h, k + 1, o', t', hk, ht => by
  simp only [stD]
  rw [show decide (i < i + (k + 1)) = true by simp]
  have := TrOK.good (i := i + 1) h.2.2 k o' t' (by simpa using hk) (by simpa using ht)
  rw [show i + 1 + k = i + (k + 1) by omega] at this
  exact this
 | [], _, _, _, _ :: _, h, _, _, _, _, _ => h.elim
 | _ :: _, _, _, _, [], h, _, _, _, _, _ => h.elim
theorem TrOK.ids {all : List Oper} : ∀ {r : List Oper} {id : Nat} {s : St0 E N} {tr : List (Rc E N)}, TrOK P cfg all r id s tr → (∀ (k : Nat) (t : Rc E N), tr[k]? = some t → id ≤ t.id) ∧
    ∀ (i j : Nat) (o : Oper) (t u : Rc E N), i < j → r[i]? = some o → tr[i]? = some t → tr[j]? = some u → t.id + BS P o ≤ u.id
  | [], _, _, [], _ => ⟨fun k t h => by simp at h, fun i j o t u _ h => by simp at h⟩
  | o :: r, id, s, t :: tr, h => by
    obtain ⟨h1, h2⟩ := h.2.2.ids
    refine ⟨fun k u hk => ?_, fun i j o' t' u hij ho ht hu => ?_⟩
    · cases k with
      | zero => simp at hk; subst hk; exact Nat.le_of_eq h.1.symm
      | succ k => have := h1 k u (by simpa using hk); omega
    · cases j with
      | zero => omega
      | succ j =>
        cases i with
        | zero =>
          simp at ho ht; subst ho; subst ht
          have := h1 j u (by simpa using hu)
          rw [h.1]; exact this
        | succ i => exact h2 i j o' t' u (by omega) (by simpa using ho) (by simpa using ht) (by simpa using hu)
  | [], _, _, _ :: _, h => h.elim
  | _ :: _, _, _, [], h => h.elim
theorem Zr (inl : Inl E N) {all : List Oper} {r : List PV} : ∀ (rest : List Oper) (id : Nat) (s : St0 E N) (ms : List (Nat × Nat)) (k : St0 E N → List (Nat × Nat) → Option (List PV)), GD (O := std E N) P cfg inl all true rest id s ms k = some r →
    ∃ (tr : List (Rc E N)) (id' : Nat), TrOK P cfg all rest id s tr ∧ k { stD (fun _ => true) 0 tr s with st := id' } (ms ++ tr.map fun t => (t.rd, t.wr.mask)) = some r ∧ id ≤ id' ∧ ∀ (i : Nat) (o : Oper) (t : Rc E N), rest[i]? = some o → tr[i]? = some t → t.id + BS P o ≤ id'
  | [], id, s, ms, k, h => ⟨[], id, trivial, by simpa [GD, stD] using h, Nat.le_refl _, fun i o t ho => by simp at ho⟩
  | o :: rest, id, s, ms, k, h => by
    have shift : ∀ (tr : List (Rc E N)) (i j : Nat) (s : St0 E N), stD (fun _ => true) i tr s = stD (fun _ => true) j tr s := fun tr => by
      induction tr with
      | nil => intro i j s; rfl
      | cons t tr ih => intro i j s; exact ih _ _ _
    have next : ∀ (wr : Wr (std E N)) (rd : Nat), OpGood P cfg all o s ⟨id, rd, wr⟩ → GD (O := std E N) P cfg inl all true rest (id + BS P o) (s.apply wr) (ms ++ [(rd, wr.mask)]) k = some r → ∃ (tr : List (Rc E N)) (id' : Nat), TrOK P cfg all (o :: rest) id s tr ∧ k { stD (fun _ => true) 0 tr s with st := id' } (ms ++ tr.map fun t => (t.rd, t.wr.mask)) = some r ∧ id ≤ id' ∧ ∀ (i : Nat) (o' : Oper) (t : Rc E N), (o :: rest)[i]? = some o' → tr[i]? = some t → t.id + BS P o' ≤ id' := fun wr rd hg hr => by
      obtain ⟨tr, id', h1, h2, h3, h4⟩ := Zr inl rest _ _ _ _ hr
      refine ⟨⟨id, rd, wr⟩ :: tr, id', ⟨rfl, hg, h1⟩, ?_, by omega, fun i o' t ho ht => ?_⟩
      · simp only [stD]
        rw [shift _ _ 0]
        simpa using h2
      · cases i with
        | zero => simp at ho ht; subst ho; subst ht; exact h3
        | succ i => exact h4 i o' t (by simpa using ho) (by simpa using ht)
    unfold GD at h
    split at h
    · cases h
    · rename_i as wr rd hrun
      obtain ⟨has, h2⟩ := P2 h
      exact next wr rd (.inl ⟨as, hrun, has⟩) h2
    · rename_i g f fns args dm nx rd hrun
      obtain ⟨c, hc, h2⟩ := Option.bind_eq_some_iff.1 h
      split at h2
      · cases h2
      · rename_i wr hn
        refine next wr rd (.inr ⟨g, f, fns, args, dm, nx, c, hrun, ?_, hn⟩) h2
        cases g with
        | none => exact hc
        | some b => cases b <;> exact hc
    · cases h
end
end Go.Px
end
section
namespace Go.Px
section
variable {E : Env} {N : Nat} {P : Program} {cfg : Cfg} {n0 n0' : Nz} {nt : Nat} {β β' : Nat → Option Nat} {σ σ' : Nat → Option (Nat × Nat)} {s s' s2 : St0 E N} {a : Act} {w w' : World}
theorem WM : ∀ (ops : List Oper) (acc : List Nat) (k : Nat) (o : Oper), ops[k]? = some o → ∀ j, ((Bo ops acc).getD (acc.length + k) 0).testBit j = true →
    ∃ e ∈ o.after.toList, Region.binds .any e = true ∧ (j = e.on ∨ (e.on < acc.length + k ∧ ((Bo ops acc).getD e.on 0).testBit j = true))
  | [], acc, k, o, h => by simp at h
  | x :: ops, acc, k, o, h => by
    have pre : ∀ (ops : List Oper) (acc : List Nat) (i : Nat), i < acc.length → (Bo ops acc).getD i 0 = acc.getD i 0 := fun ops => by
      induction ops with
      | nil => intro acc i _; rfl
      | cons y ops ih =>
        intro acc i hi
        simp only [Bo]
        rw [ih _ _ (by simp; omega)]
        simp only [List.getD_eq_getElem?_getD]
        rw [List.getElem?_append_left hi]
    cases k with
    | succ k =>
      intro j hj
      obtain ⟨m, hm⟩ : ∃ m, Bo (x :: ops) acc = Bo ops (acc ++ [m]) := ⟨_, rfl⟩
      rw [hm] at hj ⊢
      have hl : (acc ++ [m]).length + k = acc.length + (k + 1) := by simp; omega
      have := WM ops (acc ++ [m]) k o (by simpa using h) j (by rw [hl]; exact hj)
      rw [hl] at this
      exact this
    | zero =>
      simp at h; subst h
      intro j hj
      simp only [Bo] at hj ⊢
      rw [pre _ _ _ (by simp)] at hj
      simp only [List.getD_eq_getElem?_getD, Nat.add_zero] at hj
      rw [List.getElem?_append_right (Nat.le_refl _)] at hj
      simp only [Nat.sub_self, List.getElem?_cons_zero, Option.getD_some] at hj
      have key : ∀ (es : List Edge) (m : Nat), (es.foldl (fun s (e : Edge) => match e.ground with
    | .textOnly _ | .gcOnly _ => s
    | _ => s ||| FW e.on ||| acc.getD e.on 0) m).testBit j = true → m.testBit j = true ∨ ∃ e ∈ es, Region.binds .any e = true ∧ (j = e.on ∨ (acc.getD e.on 0).testBit j = true) := fun es => by
        induction es with
        | nil => intro m h; exact .inl h
        | cons e es ih =>
          intro m h
          simp only [List.foldl_cons] at h
          rcases ih _ h with h1 | ⟨e', h1, h2⟩
          · have hb : (m.testBit j = true) ∨ (Region.binds .any e = true ∧ (j = e.on ∨ (acc.getD e.on 0).testBit j = true)) := by
              unfold Region.binds
              split at h1
              · exact .inl h1
              · exact .inl h1
              · rename_i hg1 hg2
                rw [Nat.testBit_or, Nat.testBit_or, Bool.or_eq_true, Bool.or_eq_true, FB] at h1
                have hbnd : (match e.ground with
                    | .textOnly _ => Region.Mode.any == .text
                    | .gcOnly _ => Region.Mode.any == .gc
                    | _ => true) = true := by
                  split
                  · rename_i hx; exact (hg1 _ hx).elim
                  · rename_i hx; exact (hg2 _ hx).elim
                  · rfl
                rcases h1 with (h1 | h1) | h1
                · exact .inl h1
                · exact .inr ⟨hbnd, .inl h1.symm⟩
                · exact .inr ⟨hbnd, .inr h1⟩
            rcases hb with h | h
            · exact .inl h
            · exact .inr ⟨e, List.mem_cons_self, h⟩
          · exact .inr ⟨e', List.mem_cons_of_mem _ h1, h2⟩
      rcases key _ 0 hj with h | ⟨e, h1, h2, h3⟩
      · simp at h
      · refine ⟨e, h1, h2, h3.imp (fun h => h) (fun h => ?_)⟩
        by_cases he : e.on < acc.length
        · exact ⟨by omega, by rw [pre _ _ _ (by simp; omega)]; simp only [List.getD_eq_getElem?_getD] at h ⊢; rw [List.getElem?_append_left he]; exact h⟩
        · simp only [List.getD_eq_getElem?_getD] at h
          rw [List.getElem?_eq_none (by omega)] at h
          simp at h
theorem YJ : ∀ {ops : List Oper} {i : Nat}, Uy i ops = true → ∀ (k : Nat) (o : Oper), ops[k]? = some o → ∀ e ∈ o.after.toList, Region.binds .any e = true → e.on < i + k
 | [], i, _, k, o, h, _, _, _ => by simp at h
 | x :: ops, i, hb, k, o, h, e, he, hbd => by
  simp only [Uy, Bool.and_eq_true] at hb
  cases k with
  | succ k =>
   have := YJ hb.2 k o (by simpa using h) e he hbd
   omega
  | zero =>
   simp at h; subst h
   have := List.all_eq_true.1 hb.1 e he
   unfold Region.binds at hbd
   split at hbd
   ·simp at hbd
   ·simp at hbd
   ·rename_i h1 h2
    split at this
    ·rename_i hx; exact (h1 _ hx).elim
    ·rename_i hx; exact (h2 _ hx).elim
    ·exact BL.1 this
theorem WO {j bj rj wj : Nat} : ∀ {i : Nat} {l : List (Nat × Nat)}, MP.inner j bj rj wj i l = true → ∀ (k r w : Nat), l[k]? = some (r, w) → i + k < j → bj.testBit (i + k) = true ∨ (w &&& (rj ||| wj) = 0 ∧ wj &&& r = 0)
 | i, [], _, k, r, w, h, _ => by simp at h
 | i, (r', w') :: l, hi, k, r, w, h, hlt => by
  simp only [MP.inner] at hi
  split at hi
  ·rename_i hle; have := Nat.le_of_ble_eq_true hle; omega
  ·split at hi
   ·rename_i hor
    cases k with
    | zero =>
     simp at h
     obtain ⟨rfl, rfl⟩ := h
     simp only [Bool.or_eq_true, Bool.and_eq_true, AA] at hor
     simpa using hor
    | succ k =>
     have := WO hi k r w (by simpa using h) (by omega)
     rw [show i + (k + 1) = i + 1 + k by omega]; exact this
   ·cases hi
theorem V2 {ms : List (Nat × Nat)} : ∀ {j : Nat} {bs : List Nat} {l : List (Nat × Nat)}, MP.outer ms j bs l = true → ∀ (k b r w : Nat), bs[k]? = some b → l[k]? = some (r, w) → MP.inner (j + k) b r w 0 ms = true
 | j, [], l, _, k, b, r, w, h, _ => by simp at h
 | j, b' :: bs, [], _, k, b, r, w, _, h => by simp at h
 | j, b' :: bs, (r', w') :: l, ho, k, b, r, w, h1, h2 => by
  simp only [MP.outer] at ho
  split at ho
  ·rename_i hi
   cases k with
   | zero =>
    simp at h1 h2
    obtain ⟨rfl, rfl⟩ := h2
    subst h1; exact hi
   | succ k =>
    have := V2 ho k b r w (by simpa using h1) (by simpa using h2)
    rw [show j + (k + 1) = j + 1 + k by omega]; exact this
  ·cases ho
theorem Wk {x y p : Nat} (h : x &&& y = 0) (hx : x.testBit p = true) (hy : y.testBit p = true) : False := by
 have := congrArg (fun n => n.testBit p) h
 simp [Nat.testBit_and, hx, hy] at this
def Qz (D : Nat → Bool) : Nat → List Oper → List Nat
 | _, [] => []
 | i, o :: r => (match D i with | true => o.dst.toList | false => []) ++ Qz D (i + 1) r
theorem Kq {D : Nat → Bool} {d : Nat} : ∀ {l : List Oper} {i : Nat}, d ∈ Qz D i l ↔ ∃ k o, l[k]? = some o ∧ D (i + k) = true ∧ o.dst = some d
 | [], i => by simp [Qz]
 | x :: l, i => by
  simp only [Qz, List.mem_append, Kq (l := l)]
  constructor
  ·rintro (h | ⟨k, o, h1, h2, h3⟩)
   ·cases hD : D i with
    | true => rw [hD] at h; exact ⟨0, x, rfl, hD, by simpa using h⟩
    | false => rw [hD] at h; simp at h
   ·exact ⟨k + 1, o, by simpa using h1, by rw [show i + (k + 1) = i + 1 + k by omega]; exact h2, h3⟩
  ·rintro ⟨k, o, h1, h2, h3⟩
   cases k with
   | zero =>
    simp at h1; subst h1
    rw [Nat.add_zero] at h2
    rw [h2]; exact .inl (by simpa using h3)
   | succ k => exact .inr ⟨k, o, by simpa using h1, by rw [show i + 1 + k = i + (k + 1) by omega]; exact h2, h3⟩
theorem WU : ∀ {l : List Oper}, (AW l).Nodup → ∀ {i j : Nat} {o o' : Oper} {d : Nat}, l[i]? = some o → l[j]? = some o' → o.dst = some d → o'.dst = some d → i = j
 | [], _, i, j, o, o', d, h, _, _, _ => by simp at h
 | x :: l, hn, i, j, o, o', d, hi, hj, ho, ho' => by
  have hn2 : (AW l).Nodup := by
   simp only [AW] at hn
   cases hx : x.dst with
   | none => rw [hx] at hn; exact hn
   | some y => rw [hx] at hn; exact (List.nodup_cons.1 hn).2
  have hx : ∀ {y}, x.dst = some y → y ∉ AW l := fun {y} hx => by
   simp only [AW] at hn
   rw [hx] at hn; exact (List.nodup_cons.1 hn).1
  cases i with
  | zero =>
   cases j with
   | zero => rfl
   | succ j =>
    simp at hi; subst hi
    exact (hx ho (HV (l := l) (k := j) (by simpa using hj) ho')).elim
  | succ i =>
   cases j with
   | zero =>
    simp at hj; subst hj
    exact (hx ho' (HV (l := l) (k := i) (by simpa using hi) ho)).elim
   | succ j => exact congrArg (· + 1) (WU hn2 (by simpa using hi) (by simpa using hj) ho ho')
structure Inv (P : Program) (n0 : Nz) (nt L : Nat) (ops : List Oper) (tr : List (Rc E N)) (β : Nat → Option Nat) (σ : Nat → Option (Nat × Nat)) (s : St0 E N) (a : Act) (w : World) (D : Nat → Bool) (a' : Act) (w' : World) : Prop where
 post : ∃ β' σ', Post P n0 nt L (fun n => n ∈ AW ops) β σ s a w β' σ' (stD D 0 tr s) a' w'
 gi : GI (stD D 0 tr s) (Qz D 0 ops)
 fresh : ∀ n, L ≤ n → (∀ (i : Nat) (o : Oper) (t : Rc E N), D i = true → ops[i]? = some o → tr[i]? = some t → ¬ (t.id ≤ n ∧ n < t.id + BS P o)) → Fresh a' (stD D 0 tr s) n
theorem Zn {p q : Nat → Bool} (h : ∀ x, q x = true → p x = true) : ∀ l : List Nat, (l.filter q).length ≤ (l.filter p).length
 | [] => Nat.le_refl _
 | x :: l => by
  have ih := Zn h l
  simp only [List.filter_cons]
  cases hq : q x with
  | true => rw [h x hq]; simp; exact ih
  | false =>
   cases p x with
   | true => simp; omega
   | false => simpa using ih
theorem ZQ {p q : Nat → Bool} {i : Nat} (hp : p i = true) (hq : q i = false) (h : ∀ x, q x = true → p x = true) : ∀ l : List Nat, i ∈ l → (l.filter q).length < (l.filter p).length
 | [], hi => by simp at hi
 | x :: l, hi => by
  simp only [List.filter_cons]
  rcases List.mem_cons.1 hi with rfl | hi
  ·rw [hp, hq]
   have := Zn h l
   simp; omega
  ·have ih := ZQ hp hq h l hi
   cases hqx : q x with
   | true => rw [h x hqx]; simp; exact ih
   | false =>
    cases p x with
    | true => simp; omega
    | false => simpa using ih
theorem fO (hΓ : ∀ ci ∈ cfg.gam, BT P E N ci ∧ BT P E N { ci with own := false }) {ops : Array Oper} (hnd : (AW ops.toList).Nodup) (hgd : Dg ops.toList 0 (Bo ops.toList []) ops.toList = true)
    (hback : Uy 0 ops.toList = true) (hdn : ∀ d ∈ AW ops.toList, d < nt) {Q : Exit → Act → World → Prop} {L : Nat} {tr : List (Rc E N)} (htr : TrOK P cfg ops.toList ops.toList L s tr)
    (hap : MP (Bo ops.toList []) (tr.map fun t => (t.rd, t.wr.mask)) = true)
    (hQ : ∀ D a' w', (∀ i, i < ops.size → D i = true) → Inv P n0 nt L ops.toList tr β σ s a w D a' w' → Q .normal a' w') :
    ∀ (fuel : Nat) (listed : Array Bool) (a' : Act) (w' : World), listed.size = ops.size → ((List.range ops.size).filter fun i => !listed.getD i false).length ≤ fuel →
      (∀ i j, listed.getD i false = true → ((Bo ops.toList []).getD i 0).testBit j = true → listed.getD j false = true) →
      Inv P n0 nt L ops.toList tr β σ s a w (fun i => listed.getD i false) a' w' → wpAny P .any ops Q fuel listed a' w' := by
  have hlen := htr.len
  have hbs : (Bo ops.toList []).length = ops.toList.length := by
    have : ∀ (l : List Oper) (acc : List Nat), (Bo l acc).length = acc.length + l.length := fun l => by
      induction l with
      | nil => intro acc; simp [Bo]
      | cons x l ih => intro acc; simp only [Bo]; rw [ih]; simp; omega
    rw [this]; simp
  have PA : ∀ (i j : Nat) (t u : Rc E N), i < j → tr[i]? = some t → tr[j]? = some u → ((Bo ops.toList []).getD j 0).testBit i = true ∨ (t.wr.mask &&& (u.rd ||| u.wr.mask) = 0 ∧ u.wr.mask &&& t.rd = 0) := fun i j t u hij ht hu => by
    have hj : j < ops.toList.length := by rw [← hlen]; exact (List.getElem?_eq_some_iff.1 hu).1
    have h1 := V2 (j := 0) hap j ((Bo ops.toList []).getD j 0) u.rd u.wr.mask (by
      rw [List.getD_eq_getElem?_getD]
      rw [List.getElem?_eq_getElem (by rw [hbs]; exact hj)]; rfl) (by rw [List.getElem?_map, hu]; rfl)
    rw [Nat.zero_add] at h1
    have := WO h1 i t.rd t.wr.mask (by rw [List.getElem?_map, ht]; rfl) (by omega)
    rwa [Nat.zero_add] at this
  have allDone : ∀ (listed : Array Bool), Region.ready .any ops listed = [] → listed.size = ops.size → ∀ i, i < ops.size → listed.getD i false = true := fun listed hr hsz i => by
    induction i using Nat.strongRecOn with
    | _ i ih =>
      intro hi
      cases hl : listed.getD i false with
      | true => rfl
      | false =>
        have : i ∈ Region.ready .any ops listed := by
          rw [mem_ready]
          refine ⟨?_, ops[i], by simp [hi], fun e he hb => ?_⟩
          · rw [Array.getD_eq_getD_getElem?] at hl ⊢
            rw [Array.getElem?_eq_getElem (by rw [hsz]; exact hi)] at hl ⊢
            simpa using hl
          · have := YJ hback i ops[i] (by simp [hi]) e (by simpa using he) hb
            exact ih e.on (by omega) (by omega)
        rw [hr] at this; simp at this
  intro fuel
  induction fuel with
  | zero =>
    intro listed a' w' hsz hf hcl inv
    have hall : ∀ i, i < ops.size → listed.getD i false = true := fun i hi => by
      have h0 : ((List.range ops.size).filter fun i => !listed.getD i false) = [] := List.length_eq_zero_iff.1 (by omega)
      have := List.filter_eq_nil_iff.1 h0 i (List.mem_range.2 hi)
      simpa using this
    refine ⟨?_, hQ _ a' w' hall inv⟩
    cases hr : Region.ready .any ops listed with
    | nil => rfl
    | cons x l =>
      have hx : x ∈ Region.ready .any ops listed := by rw [hr]; exact List.mem_cons_self
      rw [mem_ready] at hx
      obtain ⟨h1, o, h2, _⟩ := hx
      have hi := (Array.getElem?_eq_some_iff.1 h2).1
      have := hall x hi
      rw [Array.getD_eq_getD_getElem?] at h1 this
      rw [Array.getElem?_eq_getElem (by rw [hsz]; exact hi)] at h1 this
      simp at h1 this
      rw [this] at h1; cases h1
  | succ fuel ih =>
    intro listed a' w' hsz hf hcl inv
    refine ⟨fun hr => hQ _ a' w' (allDone listed hr hsz) inv, fun i hi => ?_⟩
    rw [mem_ready] at hi
    obtain ⟨h1, o, ho, haft⟩ := hi
    have hisz := (Array.getElem?_eq_some_iff.1 ho).1
    have hoL : ops.toList[i]? = some o := by rw [Array.getElem?_toList]; exact ho
    have hDi : listed.getD i false = false := by
      rw [Array.getD_eq_getD_getElem?] at h1 ⊢
      rw [Array.getElem?_eq_getElem (by rw [hsz]; exact hisz)] at h1 ⊢
      simpa using h1
    have htl : i < tr.length := by rw [hlen]; simpa using hisz
    obtain ⟨t, ht⟩ : ∃ t, tr[i]? = some t := ⟨tr[i], by simp [htl]⟩
    have hbef : ∀ j, ((Bo ops.toList []).getD i 0).testBit j = true → listed.getD j false = true := fun j hj => by
      obtain ⟨e, he, hb, h3⟩ := WM ops.toList [] i o hoL j (by simpa using hj)
      have hd := haft e (by simpa using he) hb
      rcases h3 with rfl | ⟨_, h3⟩
      · exact hd
      · exact hcl e.on j hd h3
    have hgood := htr.good (i := 0) i o t hoL ht
    rw [Nat.zero_add] at hgood
    have hgood2 : OpGood P cfg ops.toList o (stD (fun i => listed.getD i false) 0 tr s) t := hgood.agree (fun p hp => P4 rfl (fun k u hk hu => by
      rw [Nat.zero_add]
      rcases Nat.lt_trichotomy k i with hlt | rfl | hgt
      · rcases PA k i u t hlt hk ht with h | ⟨h, _⟩
        · rw [hbef k h]; simpa using hlt
        · exact (Wk h hu (by rw [Nat.testBit_or, hp]; rfl)).elim
      · rw [hDi]; simp
      · rcases PA i k t u hgt ht hk with h | ⟨_, h⟩
        · cases hD : listed.getD k false with
          | false => simp; omega
          | true => have := hcl k i hD h; rw [hDi] at this; cases this
        · exact (Wk h hu hp).elim))
    have hset : ∀ j, (listed.setIfInBounds i true).getD j false = (listed.getD j false || decide (j = i)) := fun j => by
      by_cases hji : j = i
      · subst hji
        rw [Array.getD_eq_getD_getElem?, Array.getElem?_setIfInBounds]
        simp [hsz, hisz]
      · rw [getD_set_ne _ (fun e => hji e.symm)]; simp [hji]
    have hsame : Same ((stD (fun i => listed.getD i false) 0 tr s).apply t.wr) (stD (fun j => (listed.setIfInBounds i true).getD j false) 0 tr s) := fun p => by
      by_cases hp : t.wr.mask.testBit p = true
      · rw [TA (stD (fun i => listed.getD i false) 0 tr s) (D := fun j => (listed.setIfInBounds i true).getD j false) (i := 0) (s := s) ht (by rw [Nat.zero_add, hset]; simp) hp (fun j u hj hu hup => by
          rw [Nat.zero_add, hset]
          rcases PA i j t u hj ht hu with h | ⟨h, _⟩
          · cases hD : listed.getD j false with
            | false => simp; omega
            | true => have := hcl j i hD h; rw [hDi] at this; cases this
          · exact (Wk h hp (by rw [Nat.testBit_or, hup, Bool.or_true])).elim)]
      · rw [Ml hp]
        refine P4 rfl (fun k u hk hu => ?_)
        rw [Nat.zero_add, hset]
        have : k ≠ i := fun e => by subst e; rw [ht] at hk; cases hk; exact hp hu
        simp [this]
    obtain ⟨β1, σ1, hpost⟩ := inv.post
    have hdst : ∀ d, o.dst = some d → d ∉ Qz (fun i => listed.getD i false) 0 ops.toList ∧ d < nt := fun d hd => by
      refine ⟨fun hm => ?_, hdn d (HV hoL hd)⟩
      obtain ⟨k, o', h2, h3, h4⟩ := Kq.1 hm
      have := WU hnd hoL h2 hd h4
      subst this
      rw [Nat.zero_add, hDi] at h3; cases h3
    have hgdone : ∀ j want d, o.guard = some (j, want) → (ops[j]?).bind (·.dst) = some d → d ∈ Qz (fun i => listed.getD i false) 0 ops.toList := fun j want d h2 h3 => by
      have hb : ((Bo ops.toList []).getD i 0).testBit j = true := by
        have : ∀ (l : List Oper) (bs : List Nat) (q k : Nat), Dg ops.toList q bs l = true → l[k]? = some o → (bs.getD k 0).testBit j = true := fun l => by
          induction l with
          | nil => intro bs q k _ h; simp at h
          | cons x l ih =>
            intro bs q k hg hk
            cases bs with
            | nil => simp [Dg] at hg
            | cons b bs =>
              simp only [Dg] at hg
              cases k with
              | zero =>
                simp at hk; subst hk
                rw [h2] at hg
                simp only [Bool.and_eq_true] at hg
                exact hg.1.1.2
              | succ k =>
                have hg2 : Dg ops.toList (q + 1) bs l = true := by
                  split at hg
                  · exact hg
                  · simp only [Bool.and_eq_true] at hg; exact hg.2
                exact ih bs (q + 1) k hg2 (by simpa using hk)
        exact this _ _ 0 i hgd hoL
      obtain ⟨x, hx, hxd⟩ := Option.bind_eq_some_iff.1 h3
      exact Kq.2 ⟨j, x, by rw [Array.getElem?_toList]; exact hx, by rw [Nat.zero_add]; exact hbef j hb, hxd⟩
    obtain ⟨ids1, ids2⟩ := htr.ids
    have hid : ∀ n, t.id ≤ n → n < t.id + BS P o → Fresh a' (stD (fun i => listed.getD i false) 0 tr s) n := fun n hn1 hn2 => inv.fresh n (Nat.le_trans (ids1 i t ht) hn1) (fun k o' u hk ho' hu hc => by
      rcases Nat.lt_trichotomy k i with hlt | rfl | hgt
      · have := ids2 k i o' u t hlt ho' hu ht; omega
      · rw [hDi] at hk; cases hk
      · have := ids2 i k o t u hgt hoL ht hu; omega)
    have next : ∀ a2 w2, After P n0 nt (fun n => t.id ≤ n ∧ n < t.id + BS P o) β1 σ1 (stD (fun i => listed.getD i false) 0 tr s) a' w' o.dst t.wr a2 w2 → GI ((stD (fun i => listed.getD i false) 0 tr s).apply t.wr) (o.dst.toList ++ Qz (fun i => listed.getD i false) 0 ops.toList) →
        wpAny P .any ops Q fuel (listed.setIfInBounds i true) a2 w2 := fun a2 w2 haf hgi => by
      refine ih _ a2 w2 (by simp [hsz]) ?_ (fun x y hx hy => ?_) ⟨?_, ?_, fun n hn hno => ?_⟩
      · have hlt : ((List.range ops.size).filter fun j => !(listed.setIfInBounds i true).getD j false).length < ((List.range ops.size).filter fun j => !listed.getD j false).length := by
          refine ZQ (i := i) (by simp only [hDi]; rfl) (by rw [hset]; simp) (fun x hx => ?_) _ (List.mem_range.2 hisz)
          rw [hset] at hx
          cases hlx : listed.getD x false with
          | false => rfl
          | true => rw [hlx] at hx; simp at hx
        omega
      · rw [hset] at hx ⊢
        by_cases hxi : x = i
        · subst hxi; rw [hbef y hy]; rfl
        · have hx' : listed.getD x false = true := by simpa [hxi] using hx
          rw [hcl x y hx' hy]; rfl
      · obtain ⟨β2, σ2, r1, r2, r3, r4, r5, r6, r7⟩ := haf
        have p2 : Post P n0 nt L (fun n => n ∈ AW ops.toList) β1 σ1 (stD (fun i => listed.getD i false) 0 tr s) a' w' β2 σ2 ((stD (fun i => listed.getD i false) 0 tr s).apply t.wr) a2 w2 :=
          ⟨r1, r2.weaken (fun n hn => Nat.le_trans (ids1 i t ht) hn.1), r4, r5, r6, fun n hn => r7 n (fun e => hn (HV hoL e))⟩
        have p3 := (hpost.trans p2 (Nat.le_refl _)).same hsame
        exact ⟨β2, σ2, ⟨p3.sim, p3.ext, p3.cleanB, p3.cleanH, p3.defers, fun n hn => p3.tmps n (fun h => hn (h.elim (fun h => h) (fun h => h)))⟩⟩
      · refine (hgi.same hsame).mono (fun d hd => ?_)
        rcases List.mem_append.1 hd with h | h
        · exact Kq.2 ⟨i, o, hoL, by rw [Nat.zero_add, hset]; simp, by simpa using h⟩
        · obtain ⟨k, o', q1, q2, q3⟩ := Kq.1 h
          exact Kq.2 ⟨k, o', q1, by rw [Nat.zero_add] at q2 ⊢; rw [hset]; simp [q2], q3⟩
      · obtain ⟨β2, σ2, r1, r2, r3, r4⟩ := haf
        refine (r3 n (inv.fresh n hn (fun k o' u hk => hno k o' u (by rw [hset, hk]; rfl))) (fun hc => ?_)).same hsame
        exact hno i o t (by rw [hset]; simp) hoL ht hc
    rcases hgood2 with ⟨as, hrun, has⟩ | ⟨g, f, fns, ls, dm, nx, c, hrun, hc, hn⟩
    · exact U8 hpost.sim inv.gi hgdone hdst hid ho hrun has next
    · exact WV hΓ hpost.sim inv.gi hgdone hdst hid ho hrun (c := c) (by
        cases g with
        | none => exact hc
        | some b => exact hc) hn next
end
end Go.Px
end
section
namespace Go.Px
section
variable {E : Env} {N : Nat} {P : Program} {cfg : Cfg} {n0 n0' : Nz} {nt : Nat} {β β' : Nat → Option Nat} {σ σ' : Nat → Option (Nat × Nat)} {s s' s2 : St0 E N} {a : Act} {w w' : World}
theorem Sim.grow (hs : Sim P n0 nt β σ s a w) (g : Grow w w') : Sim P n0 nt β σ s a w' := by
 have x := g.ext P (fun _ => False) β σ s
 refine ⟨Nat.le_trans hs.n0le g.size, hs.size, fun n tv hn => ?_, hs.M.grow g⟩
 rcases hs.T n tv hn with ⟨h1, h2⟩ | h1
 ·exact .inl ⟨h1, x.relAV (fun _ _ h => h) h2⟩
 ·exact .inr h1
theorem cG {D : Nat → Bool} (h : ∀ i, D i = false) : ∀ (tr : List (Rc E N)) (i : Nat) (s : St0 E N), stD D i tr s = s
 | [], i, s => rfl
 | t :: tr, i, s => by
  simp only [stD, h i]
  exact cG h tr _ _
theorem dV (hmix : P.follows .mixedOrders = true) (inl : Inl E N) (hΓ : ∀ ci ∈ cfg.gam, BT P E N ci ∧ BT P E N { ci with own := false }) {ops : Array Oper} {rid : Nat} (hdn : Jn nt ops.toList = true) {Q : Exit → Act → World → Prop} {r : List PV}
    {k : St0 E N → Option (List PV)} (h : Id (O := std E N) P cfg inl ops.toList true s k = some r) (hs : Sim P n0 nt β σ s a w) (wf : WF s)
    (hQ : ∀ (s' : St0 E N) (β' : Nat → Option Nat) (σ' : Nat → Option (Nat × Nat)) (a' : Act) (w' : World), k s' = some r → Post P n0 nt s.st (fun n => n ∈ AW ops.toList) β σ s a w β' σ' s' a' w' → WF s' → s.st ≤ s'.st → Q .normal a' w') :
    (Code.region rid ops true).wp P Q a w := by
  unfold Id at h
  split at h
  · cases h
  · rename_i hok
    simp only [Bool.and_eq_true] at hok
    obtain ⟨tr, id', htr, h2, hid, hids⟩ := Zr inl _ _ _ _ _ h
    simp only [Bool.not_true, Bool.false_or, List.nil_append] at h2
    split at h2
    · cases h2
    rename_i hap
    have g : Grow w { w with drawn := w.drawn + 1 } := ⟨rfl, rfl, rfl, Nat.le_refl _, fun _ _ => rfl⟩
    have hs0 := hs.grow g
    have hD0 : ∀ i, (Array.replicate ops.size false).getD i false = false := fun i => by
      rw [Array.getD_eq_getD_getElem?]
      by_cases hi : i < ops.size
      · rw [Array.getElem?_eq_getElem (by simpa using hi)]; simp
      · rw [Array.getElem?_eq_none (by simpa using hi)]; rfl
    refine wp_region_any hmix ?_
    refine fO (n0 := n0) (L := s.st) (β := β) (σ := σ) (a := a) (w := { w with drawn := w.drawn + 1 }) hΓ (S1 hok.1) hok.2.1 hok.2.2 (QP hdn) htr hap (fun D a' w' hall inv => ?_) ops.size _ a _ (by simp) ?_ (fun i j hi => ?_) ?_
    · obtain ⟨β', σ', hp⟩ := inv.post
      have hsame : Same (stD D 0 tr s) (stD (fun _ => true) 0 tr s) := fun p => P4 rfl (fun k t hk _ => by
        rw [Nat.zero_add]
        refine hall k ?_
        have := (List.getElem?_eq_some_iff.1 hk).1
        rw [htr.len] at this
        simpa using this)
      have hp1 := hp.same hsame
      have hp2 : Post P n0 nt s.st (fun n => n ∈ AW ops.toList) β σ s a w β' σ' (stD (fun _ => true) 0 tr s) a' w' :=
        ⟨hp1.sim, ((g.ext P (fun _ => False) β σ s).trans hp1.ext).weaken (fun n h => h.elim (fun h => h.elim) (fun h => h)), hp1.cleanB, hp1.cleanH, hp1.defers, hp1.tmps⟩
      have hf : ∀ n, id' ≤ n → Fresh a' (stD (fun _ => true) 0 tr s) n := fun n hn => (inv.fresh n (Nat.le_trans hid hn) (fun i o t _ ho ht hc => by
        have := hids i o t ho ht; omega)).same hsame
      have wf' : WF ({ stD (fun _ => true) 0 tr s with tm := Fw (stD (fun _ => true) 0 tr s).tm, st := id' } : St0 E N) := ⟨fun n hn => ⟨⟨(hf n hn).b, (hf n hn).h⟩, fun k tv hk => by
        obtain ⟨h1, h2⟩ := JR hk
        exact (hf n hn).t k tv h1 (fun m b hm => by rw [h2] at hm; simp at hm)⟩, fun n tv hn => (JR hn).2⟩
      have sub : Sub (stD (fun _ => true) 0 tr s) ({ stD (fun _ => true) 0 tr s with tm := Fw (stD (fun _ => true) 0 tr s).tm, st := id' } : St0 E N) := Sub.of_same (fun _ => rfl) (fun _ => rfl)
      exact hQ _ β' σ' a' w' h2 ⟨hp2.sim.purged id', (hp2.ext.trans (sub.ext P (fun _ => False) β' σ' w')).weaken (fun n h => h.elim (fun h => h) (fun h => h.elim)), hp2.cleanB, hp2.cleanH, hp2.defers, hp2.tmps⟩ wf' hid
    · have := List.length_filter_le (fun i => !(Array.replicate ops.size false).getD i false) (List.range ops.size)
      simpa using this
    · rw [hD0] at hi; cases hi
    · have e := cG (fun i => hD0 i) tr 0 s
      refine ⟨⟨β, σ, ?_⟩, ?_, fun n hn _ => ?_⟩
      · rw [e]; exact ⟨hs0, Ext.refl _ _ _ _ _ _, fun n e h _ => h, fun n e h _ => h, rfl, fun _ _ => rfl⟩
      · rw [e]; exact wf.gi.mono (fun x hx => by simp at hx)
      · rw [e]; exact wf.free a n hn
end
end Go.Px
end
section
namespace Go.Px
section
variable {E : Env} {N : Nat} {P : Program} {cfg : Cfg} {n0 n0' : Nz} {nt : Nat} {β β' : Nat → Option Nat} {σ σ' : Nat → Option (Nat × Nat)} {s s' s2 : St0 E N} {a : Act} {w w' : World}
structure Enc (s : St0 E N) (keep used used' : List Nat) (os : List (Option Nat)) (fr : List (Nat × Option (HEnt (std E N)))) : Prop where
 up : ∀ n ∈ used, n ∈ used'
 src : ∀ n, some n ∈ os → n ∉ used ∧ n ∈ used' ∧ n ∉ keep ∧ ∃ h, s.getH n = some h ∧ h.frozen = false
 nd : (os.filterMap id).Nodup
 ok : FrOK s fr
 fz : ∀ y ∈ fr, ∃ h, s.getH y.1 = some h ∧ (h.frozen = true ∨ (y.1 ∉ used ∧ y.1 ∈ used' ∧ y.1 ∉ keep))
 ap : ∀ y ∈ fr, some y.1 ∉ os
theorem Enc.nil {keep used : List Nat} : Enc s keep used used [] [] :=
 ⟨fun _ h => h, fun _ h => by simp at h, List.nodup_nil, fun _ _ h => by simp at h, fun _ h => by simp at h, fun _ h => by simp at h⟩
theorem Enc.append {keep used u u' : List Nat} {os os' : List (Option Nat)} {fr fr' : List (Nat × Option (HEnt (std E N)))} (h : Enc s keep used u os fr) (k : Enc s keep u u' os' fr') :
    Enc s keep used u' (os ++ os') (fr ++ fr') where
  up n hn := k.up n (h.up n hn)
  src n hn := by
    rcases List.mem_append.1 hn with hn | hn
    · obtain ⟨a1, a2, a3⟩ := h.src n hn; exact ⟨a1, k.up n a2, a3⟩
    · obtain ⟨a1, a2, a3⟩ := k.src n hn; exact ⟨fun hm => a1 (h.up n hm), a2, a3⟩
  nd := by
    rw [List.filterMap_append]
    refine List.nodup_append.2 ⟨h.nd, k.nd, fun x hx y hy e => ?_⟩
    subst e
    have h1 : some x ∈ os := by simpa using hx
    have h2 : some x ∈ os' := by simpa using hy
    exact (k.src x h2).1 (h.src x h1).2.1
  ok := h.ok.append k.ok
  fz y hy := by
    rcases List.mem_append.1 hy with hy | hy
    · obtain ⟨e, a1, a2⟩ := h.fz y hy
      exact ⟨e, a1, a2.imp (fun h => h) (fun h => ⟨h.1, k.up _ h.2.1, h.2.2⟩)⟩
    · obtain ⟨e, a1, a2⟩ := k.fz y hy
      exact ⟨e, a1, a2.imp (fun h => h) (fun g => ⟨fun hm => g.1 (h.up _ hm), g.2⟩)⟩
  ap y hy hm := by
    rcases List.mem_append.1 hy with hy | hy <;> rcases List.mem_append.1 hm with hm | hm
    · exact h.ap y hy hm
    · obtain ⟨e, a1, a2⟩ := h.fz y hy
      obtain ⟨b1, b2, b3, e', b4, b5⟩ := k.src _ hm
      rw [a1] at b4; cases b4
      rcases a2 with a2 | a2
      · rw [a2] at b5; cases b5
      · exact b1 a2.2.1
    · obtain ⟨e, a1, a2⟩ := k.fz y hy
      obtain ⟨b1, b2, b3, e', b4, b5⟩ := h.src _ hm
      rw [a1] at b4; cases b4
      rcases a2 with a2 | a2
      · rw [a2] at b5; cases b5
      · exact a2.1 b2
    · exact k.ap y hy hm
def Holds (cv : List PV) (j : Nat) (ls : List Ab) : Prop := ∀ (i : Nat) (l : Ab), ls[i]? = some l → AF cv (j + i) = l.pv
theorem Holds.left {cv : List PV} {j : Nat} {a b : List Ab} (h : Holds cv j (a ++ b)) : Holds cv j a := fun i l hl => h i l (by
 rw [List.getElem?_append_left (List.getElem?_eq_some_iff.1 hl).1]; exact hl)
theorem Holds.right {cv : List PV} {j : Nat} {a b : List Ab} (h : Holds cv j (a ++ b)) : Holds cv (j + a.length) b := fun i l hl => by
 have := h (a.length + i) l (by rw [List.getElem?_append_right (by omega)]; simpa using hl)
 rw [Nat.add_assoc]; exact this
abbrev BV (E : Env) (N : Nat) (cv : List PV) (j q : Nat) (sc : SlotC) : AC0 E N × List (Nat × HEnt (std E N)) := Hg (O := std E N) cv j q sc
abbrev AH (E : Env) (N : Nat) (cv : List PV) (j q : Nat) (scs : List SlotC) : List (AC0 E N) × List (Nat × HEnt (std E N)) := Jz (O := std E N) cv j q scs
theorem Ww (m : Mem P n0 β σ s w) {c : AC0 E N} {v : Value} {t : TypeId} {r : Rows} {fr : List (Nat × Option (HEnt (std E N)))} {nw nw' : Bool} (hc : RelC P n0 β σ s w c v) (ht : A7 (AG P t) c = true)
    {k' : Nat} (h : RM.run s (bn (O := std E N) c) 0 = .ok ((.rows r, fr, nw), k')) (hn : nw' = true → nw = true) {sf : St0 E N} (hsub : Sub s sf) (hf : Frz sf fr) : Rep P w (StB n0 β σ sf nw') t v (.rows r) := by
  obtain ⟨_, _, h3⟩ := Y8 m hc h
  exact h3 t sf ht hsub (fun x hx h hh => by obtain ⟨h', e1, e2⟩ := hf x hx; rw [e1] at hh; cases hh; exact e2) (fun x hx => by obtain ⟨h', e1, _⟩ := hf x hx; exact ⟨h', e1⟩) nw' hn
theorem iL (m : Mem P n0 β σ s w) {keep used u : List Nat} {sc : SlotC} {c : AC0 E N} {l : Ab} (h : KL (O := std E N) s keep used sc c = .ok (l, u)) {v : Value} (hc : RelC P n0 β σ s w c v)
    {cv : List PV} {j : Nat} (hl : AF cv j = l.pv) (q : Nat) :
    ∃ (os : List (Option Nat)) (fr : List (Nat × Option (HEnt (std E N)))), Enc s keep used u os fr ∧ Ents P s q os (BV E N cv j q sc).2 ∧ (∀ p ∈ (BV E N cv j q sc).2, p.2.dirty = true) ∧
      (∀ n ∈ (BV E N cv j q sc).1.names, q ≤ n ∧ n < q + (BV E N cv j q sc).2.length) ∧
      ∀ (sf : St0 E N), Sub s sf → Frz sf fr → ∀ (σ2 : Nat → Option (Nat × Nat)) (S : St0 E N), (∀ nw b, StB n0 β σ sf nw b → StB n0 β σ2 S nw b) → Wired σ σ2 S q os (BV E N cv j q sc).2 → RelC P n0 β σ2 S w (BV E N cv j q sc).1 v := by
  cases sc with
  | int k =>
    cases c <;> simp only [KL] at h <;> try cases h
    rename_i k' i
    split at h <;> cases h
    rename_i hk
    have := G0.1 hk; subst this
    refine ⟨[], [], Enc.nil, trivial, fun p hp => by simp [BV, Hg] at hp, fun n hn => by simp [BV, Hg, AC.names] at hn, fun sf _ _ σ2 S _ _ => ?_⟩
    have hv : v = .int k i := hc
    show v = .int k (pvI (AF cv j))
    rw [hl]; exact hv
  | bool =>
    cases c <;> simp only [KL] at h <;> try cases h
    rename_i b
    refine ⟨[], [], Enc.nil, trivial, fun p hp => by simp [BV, Hg] at hp, fun n hn => by simp [BV, Hg, AC.names] at hn, fun sf _ _ σ2 S _ _ => ?_⟩
    have hv : v = .bool b := hc
    show v = .bool (pvB (AF cv j))
    rw [hl]; exact hv
  | str =>
    cases c <;> simp only [KL] at h <;> try cases h
    rename_i b
    refine ⟨[], [], Enc.nil, trivial, fun p hp => by simp [BV, Hg] at hp, fun n hn => by simp [BV, Hg, AC.names] at hn, fun sf _ _ σ2 S _ _ => ?_⟩
    have hv : v = .string b := hc
    show v = .string (pvS (AF cv j))
    rw [hl]; exact hv
  | own e nw =>
    have one : ∀ n ∈ (BV E N cv j q (.own e nw)).1.names, q ≤ n ∧ n < q + (BV E N cv j q (.own e nw)).2.length := fun n hn => by
      simp [BV, Hg, AC.names] at hn; subst hn; simp [BV, Hg]
    have dt : ∀ p ∈ (BV E N cv j q (.own e nw)).2, p.2.dirty = true := fun p hp => by simp [BV, Hg] at hp; subst hp; rfl
    cases c <;> simp only [KL] at h <;> try cases h
    · rename_i e'
      split at h <;> cases h
      rename_i he
      have := AA.1 he; subst this
      obtain ⟨t0, ts0, ht0, hts0, av, hv⟩ := hc
      have hl' : pvL (AF cv j) = [] := by rw [hl]; rfl
      refine ⟨[none], [], ⟨fun _ h => h, fun n hn => by simp at hn, List.nodup_nil, fun _ _ h => by simp at h, fun _ h => by simp at h, fun _ h => by simp at h⟩, ⟨rfl, rfl, ⟨hl', t0, ts0, ht0, hts0⟩, trivial⟩, dt, one, fun sf _ _ σ2 S _ hw => ⟨⟨_, _, _, hv⟩, fun h3 hh3 => ?_⟩⟩
      rw [hw.2.1] at hh3; cases hh3
      exact ⟨rfl, .inr ⟨hw.1, by show (pvL (AF cv j)).length = 0; rw [hl']; rfl, av, hv⟩⟩
    · rename_i e' id
      cases hh : s.getH id with
      | none => rw [hh] at h; cases h
      | some en =>
        rw [hh] at h
        simp only at h
        split at h <;> cases h
        rename_i hg
        simp only [Bool.and_eq_true, Bool.not_eq_true', Bool.or_eq_true] at hg
        obtain ⟨⟨⟨⟨⟨g1, g2⟩, g3⟩, g4⟩, g5⟩, g6⟩ := hg
        have e1 := AA.1 g1
        have e2 := AA.1 g2
        subst e1
        have nu : id ∉ used := fun hm => by rw [CT.2 hm] at g5; cases g5
        have nk : id ∉ keep := fun hm => by rw [CT.2 hm] at g6; cases g6
        have hl' : pvL (AF cv j) = en.l := by rw [hl]; rfl
        refine ⟨[some id], [], ⟨fun _ h => List.mem_cons_of_mem _ h, fun n hn => ?_, by simp, fun _ _ h => by simp at h, fun _ h => by simp at h, fun _ h => by simp at h⟩, ⟨rfl, rfl, ⟨en, hh, e2, hl', g3, fun h => ?_⟩, trivial⟩, dt, one, fun sf _ _ σ2 S _ hw => ?_⟩
        · simp at hn; subst hn
          exact ⟨nu, List.mem_cons_self, nk, en, hh, g3⟩
        · have h' : nw = true := h
          rcases g4 with g4 | g4
          · exact g4
          · rw [h'] at g4; cases g4
        · exact Zo (h' := { e := e, frozen := false, nw := nw, l := pvL (AF cv j), dirty := true }) hc hh e2 hl' hw.1 hw.2.1
  | imm e nw =>
    have one : ∀ n ∈ (BV E N cv j q (.imm e nw)).1.names, q ≤ n ∧ n < q + (BV E N cv j q (.imm e nw)).2.length := fun n hn => by
      simp [BV, Hg, AC.names] at hn
    have dt : ∀ p ∈ (BV E N cv j q (.imm e nw)).2, p.2.dirty = true := fun p hp => by simp [BV, Hg] at hp
    cases c <;> simp only [KL] at h <;> try cases h
    · rename_i e'
      split at h <;> cases h
      rename_i he
      have := AA.1 he; subst this
      have hl' : pvL (AF cv j) = [] := by rw [hl]; rfl
      refine ⟨[], [], Enc.nil, trivial, dt, one, fun sf hsub hf σ2 S hst _ => ?_⟩
      have hc0 := hc
      obtain ⟨t0, ts0, ht0, hts0, av, hv⟩ := hc0
      refine ⟨t0, ht0, ?_⟩
      show Rep P w _ t0 v (.rows (pvL (AF cv j)))
      rw [hl']
      exact (Ww m (nw' := nw) hc (t := t0) (by rw [ht0]; exact he) rfl (fun _ => rfl) hsub hf).st (hst nw)
    · rename_i e' nw' r
      split at h <;> cases h
      rename_i hg
      simp only [Bool.and_eq_true, Bool.not_eq_true', Bool.or_eq_true] at hg
      have := AA.1 hg.1; subst this
      have hl' : pvL (AF cv j) = r := by rw [hl]; rfl
      refine ⟨[], [], Enc.nil, trivial, dt, one, fun sf hsub hf σ2 S hst _ => ?_⟩
      have hc0 := hc
      obtain ⟨t0, ht0, hv⟩ := hc0
      refine ⟨t0, ht0, ?_⟩
      show Rep P w _ t0 v (.rows (pvL (AF cv j)))
      rw [hl']
      exact (Ww m (nw' := nw) hc (t := t0) (by rw [ht0]; exact hg.1) rfl (fun h => by
        rcases hg.2 with h1 | h1
        · exact h1
        · rw [h] at h1; cases h1) hsub hf).st (hst nw)
    · rename_i e' id
      cases hh : s.getH id with
      | none => rw [hh] at h; cases h
      | some en =>
        rw [hh] at h
        simp only at h
        split at h <;> cases h
        rename_i hg
        simp only [Bool.and_eq_true, Bool.not_eq_true', Bool.or_eq_true] at hg
        obtain ⟨⟨⟨⟨g1, g2⟩, g3⟩, g4⟩, g5⟩ := hg
        have e1 := AA.1 g1
        have e2 := AA.1 g2
        subst e1
        have nu : id ∉ used := fun hm => by rw [CT.2 hm] at g5; cases g5
        have hl' : pvL (AF cv j) = en.l := by rw [hl]; rfl
        refine ⟨[], [(id, some { en with frozen := true, dirty := true })], ⟨fun n hn => ?_, fun n hn => by simp at hn, List.nodup_nil, fun n v hm => ?_, fun y hy => ?_, fun y hy => by simp⟩, trivial, dt, one, fun sf hsub hf σ2 S hst _ => ?_⟩
        · cases en.frozen with
          | true => exact hn
          | false => exact List.mem_cons_of_mem _ hn
        · simp at hm; obtain ⟨rfl, rfl⟩ := hm; exact ⟨en, hh, rfl⟩
        · simp at hy; subst hy
          refine ⟨en, hh, ?_⟩
          cases hz : en.frozen with
          | true => exact .inl rfl
          | false =>
            refine .inr ⟨nu, List.mem_cons_self, fun hm => ?_⟩
            rw [hz, CT.2 hm] at g4
            simp at g4
        · obtain ⟨t0, ts0, ht0, _⟩ := m.H id en hh
          refine ⟨t0, by rw [ht0, ← e2], ?_⟩
          show Rep P w _ t0 v (.rows (pvL (AF cv j)))
          rw [hl']
          exact (Ww m (nw' := nw) (nw := en.nw) (fr := [(id, some { en with frozen := true, dirty := true })]) hc (t := t0) (by rw [ht0]; exact AA.2 e2.symm) (by
            show RM.run s (RM.h id _) 0 = _
            simp only [RM.run]
            rw [hh]; rfl) (fun h => by
            rcases g3 with h1 | h1
            · exact h1
            · rw [h] at h1; cases h1) hsub hf).st (hst nw)
end
end Go.Px
end
section
namespace Go.Px
section
variable {E : Env} {N : Nat} {P : Program} {cfg : Cfg} {n0 n0' : Nz} {nt : Nat} {β β' : Nat → Option Nat} {σ σ' : Nat → Option (Nat × Nat)} {s s' s2 : St0 E N} {a : Act} {w w' : World}
theorem Holds.head {cv : List PV} {j : Nat} {l : Ab} {ls : List Ab} (h : Holds cv j (l :: ls)) : AF cv j = l.pv := h 0 l rfl
theorem Holds.tail {cv : List PV} {j : Nat} {l : Ab} {ls : List Ab} (h : Holds cv j (l :: ls)) : Holds cv (j + 1) ls := fun i x hx => by
 have := h (i + 1) x (by simpa using hx)
 rw [show j + 1 + i = j + (i + 1) by omega]; exact this
theorem QZ (m : Mem P n0 β σ s w) {keep : List Nat} : ∀ {scs : List SlotC} {cs : List (AC0 E N)} {vals : List Value} {ls : List Ab} {used u : List Nat}, Ig (O := std E N) s keep used scs cs = .ok (ls, u) → RelCs P n0 β σ s w cs vals →
    ∀ (cv : List PV) (j : Nat), Holds cv j ls → ∀ (q : Nat), ls.length = scs.length ∧
    ∃ (os : List (Option Nat)) (fr : List (Nat × Option (HEnt (std E N)))), Enc s keep used u os fr ∧ Ents P s q os (AH E N cv j q scs).2 ∧ (∀ p ∈ (AH E N cv j q scs).2, p.2.dirty = true) ∧
      (∀ n ∈ AB (AH E N cv j q scs).1, q ≤ n ∧ n < q + (AH E N cv j q scs).2.length) ∧
      ∀ (sf : St0 E N), Sub s sf → Frz sf fr → ∀ (σ2 : Nat → Option (Nat × Nat)) (S : St0 E N), (∀ nw b, StB n0 β σ sf nw b → StB n0 β σ2 S nw b) → Wired σ σ2 S q os (AH E N cv j q scs).2 → RelCs P n0 β σ2 S w (AH E N cv j q scs).1 vals
  | [], [], [], ls, used, u, h, _ => by
    intro cv j _ q
    simp only [Ig] at h; cases h
    exact ⟨rfl, [], [], Enc.nil, trivial, fun p hp => by simp [AH, Jz] at hp, fun n hn => by simp [AH, Jz, AB] at hn, fun _ _ _ _ _ _ _ => trivial⟩
  | sc :: scs, c :: cs, v :: vals, ls, used, u, h, hc => by
    intro cv j hh q
    simp only [Ig] at h
    split at h
    · cases h
    rename_i l u1 h1
    split at h
    · cases h
    rename_i ls2 u2 h2
    cases h
    obtain ⟨os1, fr1, a1, a2, a3, a4, a5⟩ := iL m h1 hc.1 hh.head q
    obtain ⟨hlen, os2, fr2, b1, b2, b3, b4, b5⟩ := QZ m h2 hc.2 _ _ hh.tail (q + (BV E N cv j q sc).2.length)
    have e1 : (AH E N cv j q (sc :: scs)).1 = (BV E N cv j q sc).1 :: (AH E N cv (j + 1) (q + (BV E N cv j q sc).2.length) scs).1 := rfl
    have e2 : (AH E N cv j q (sc :: scs)).2 = (BV E N cv j q sc).2 ++ (AH E N cv (j + 1) (q + (BV E N cv j q sc).2.length) scs).2 := rfl
    rw [e1, e2]
    refine ⟨by simp [hlen], os1 ++ os2, fr1 ++ fr2, a1.append b1, a2.append b2, fun p hp => ?_, fun n hn => ?_, fun sf hs hf σ2 S hst hw => ⟨?_, ?_⟩⟩
    · exact (List.mem_append.1 hp).elim (a3 p) (b3 p)
    · simp only [AB, List.mem_append] at hn
      rw [List.length_append]
      rcases hn with hn | hn
      · have := a4 n hn; omega
      · have := b4 n hn; omega
    · exact a5 sf hs hf.left σ2 S hst (hw.left a2.len)
    · exact b5 sf hs hf.right σ2 S hst (hw.right a2.len)
  | [], _ :: _, _, _, _, _, h, _ => by simp only [Ig] at h; cases h
  | _ :: _, [], _, _, _, _, h, _ => by simp only [Ig] at h; cases h
  | _, [], _ :: _, _, _, _, _, hc => hc.elim
  | _, _ :: _, [], _, _, _, _, hc => hc.elim
theorem Uq {q : Nat} {r r' : List (Nat × HEnt (std E N))} (h1 : Row q r) (h2 : Row (q + r.length) r') (n : Nat) : AE (r ++ r') n = match AE r' n with
    | some a => some a
    | none => AE r n := by
  rw [IB]
  cases e1 : AE r n with
  | none => cases AE r' n <;> rfl
  | some x =>
    cases e2 : AE r' n with
    | none => rfl
    | some y =>
      have m1 := h1.mem _ (h1.get e1)
      have m2 := h2.mem _ (h2.get e2)
      simp at m1 m2; omega
theorem eO (cv : List PV) (j q n : Nat) (agg : Bool) (cs : List SlotC) (r : List Slot) (u : St0 E N) : BJ (O := std E N) cv j q (.t n agg cs :: r) u =
    BJ cv (j + cs.length) (q + (AH E N cv j q cs).2.length) r { u with tm := Fx u.tm n (some ⟨[], .val { agg, cs := (AH E N cv j q cs).1 }⟩), hp := (AH E N cv j q cs).2 ++ u.hp } := rfl
theorem Si (cv : List PV) (j q n : Nat) (cs : List SlotC) (r : List Slot) (u : St0 E N) : BJ (O := std E N) cv j q (.b n cs :: r) u =
    BJ cv (j + cs.length) (q + (AH E N cv j q cs).2.length) r { u with bx := O6 u.bx n (some { cs := (AH E N cv j q cs).1, dirty := true }), hp := (AH E N cv j q cs).2 ++ u.hp } := rfl
theorem T0 (hs : Sim P n0 nt β σ s a w) {keep : List Nat} : ∀ {sl : List Slot} {used : List Nat} {ls : List Ab}, C5 (O := std E N) s keep used sl = .ok ls →
    ∀ (cv : List PV) (j : Nat), Holds cv j ls → ∀ (q : Nat) (u : St0 E N), ∃ (u' : List Nat) (NH : List (Nat × HEnt (std E N))) (os : List (Option Nat)) (fr : List (Nat × Option (HEnt (std E N)))), Enc s keep used u' os fr ∧ Ents P s q os NH ∧ (∀ p ∈ NH, p.2.dirty = true) ∧
      (BJ (O := std E N) cv j q sl u).st = q + NH.length ∧ (∀ n, (BJ (O := std E N) cv j q sl u).getH n = match AE NH n with | some h => some h | none => u.getH n) ∧
      ∀ (sf : St0 E N), Sub s sf → Frz sf fr → ∀ (σ2 : Nat → Option (Nat × Nat)) (S : St0 E N), (∀ nw b, StB n0 β σ sf nw b → StB n0 β σ2 S nw b) → Wired σ σ2 S q os NH →
        (∀ n tv, (BJ (O := std E N) cv j q sl u).getT n = some tv → u.getT n = some tv ∨ (tv.gs = [] ∧ RelAV P n0 β σ2 S w tv.v (a.tmps.getD n undef) ∧ ∀ k ∈ tv.v.names, k < q + NH.length)) ∧
        (∀ n e, (BJ (O := std E N) cv j q sl u).getB n = some e → u.getB n = some e ∨ (e.dirty = true ∧ (∃ cs, Slot.b n cs ∈ sl) ∧ (∃ e0, s.getB n = some e0) ∧ j0 P n0 β σ2 S w n e ∧ ∀ k ∈ AB e.cs, k < q + NH.length))
  | [], used, ls, h => by
    intro cv j _ q u
    exact ⟨used, [], [], [], Enc.nil, trivial, fun p hp => by simp at hp, rfl, fun n => rfl, fun _ _ _ _ _ _ _ => ⟨fun n tv h => .inl h, fun n e h => .inl h⟩⟩
  | .t n agg scs :: r, used, ls, h => by
    intro cv j hh q u
    simp only [C5] at h
    split at h
    case h_2 => cases h
    rename_i v ht
    split at h
    case h_2 => cases h
    case h_3 => cases h
    rename_i ls1 u1 hagg h1
    split at h
    case h_2 => cases h
    rename_i more h2
    cases h
    have hv : RelAV P n0 β σ s w (.val v) (a.tmps.getD n undef) := by
      rcases hs.T n _ ht with ⟨_, h3⟩ | ⟨h3, _⟩
      · exact h3
      · exact (h3 (fun n b hm => by simp at hm)).elim
    have hv : RelVal P n0 β σ s w v (a.tmps.getD n undef) := hv
    obtain ⟨hlen, os1, fr1, a1, a2, a3, a4, a5⟩ := QZ hs.M h1 hv.1 _ _ hh.left q
    rw [eO]
    obtain ⟨u', NH, os2, fr2, b1, b2, b3, b4, b5, b6⟩ := T0 hs h2 cv (j + scs.length) (by rw [← hlen]; exact hh.right) (q + (AH E N cv j q scs).2.length)
      { u with tm := Fx u.tm n (some ⟨[], .val { agg, cs := (AH E N cv j q scs).1 }⟩), hp := (AH E N cv j q scs).2 ++ u.hp }
    refine ⟨u', (AH E N cv j q scs).2 ++ NH, os1 ++ os2, fr1 ++ fr2, a1.append b1, a2.append b2, fun p hp => (List.mem_append.1 hp).elim (a3 p) (b3 p), by rw [b4, List.length_append, Nat.add_assoc], fun k => ?_, fun sf hsub hf σ2 S hst hw => ?_⟩
    · rw [b5, Uq a2.row b2.row]
      cases AE NH k with
      | some x => rfl
      | none =>
        show AE ((AH E N cv j q scs).2 ++ u.hp) k = _
        rw [IB]
        cases AE (AH E N cv j q scs).2 k <;> rfl
    · obtain ⟨c1, c2⟩ := b6 sf hsub hf.right σ2 S hst (hw.right a2.len)
      refine ⟨fun k tv hk => ?_, fun k e hk => ?_⟩
      · rcases c1 k tv hk with h3 | ⟨h3, h4, h5⟩
        · have h3 : CQ (Fx u.tm n (some ⟨[], .val { agg, cs := (AH E N cv j q scs).1 }⟩)) k = some tv := h3
          rw [DA] at h3
          split at h3
          · rename_i hkn
            cases h3
            refine .inr ⟨rfl, ?_, fun x hx => ?_⟩
            · rw [hkn.1]
              refine ⟨a5 sf hsub hf.left σ2 S hst (hw.left a2.len), ?_⟩
              have hag : v.agg = agg := by simpa using hagg
              have := hv.2
              rw [hag] at this; exact this
            · have := a4 x hx
              rw [List.length_append]; omega
          · exact .inl h3
        · exact .inr ⟨h3, h4, fun x hx => by have := h5 x hx; rw [List.length_append]; omega⟩
      · rcases c2 k e hk with h3 | ⟨h3, ⟨cs, h4⟩, h5, h6, h7⟩
        · exact .inl h3
        · exact .inr ⟨h3, ⟨cs, List.mem_cons_of_mem _ h4⟩, h5, h6, fun x hx => by have := h7 x hx; rw [List.length_append]; omega⟩
  | .b n scs :: r, used, ls, h => by
    intro cv j hh q u
    simp only [C5] at h
    split at h
    case h_2 => cases h
    rename_i e0 he0
    split at h
    case h_2 => cases h
    rename_i ls1 u1 h1
    split at h
    case h_2 => cases h
    rename_i more h2
    cases h
    obtain ⟨blk, cells, el, hβ, hheap, hrel⟩ := hs.M.B n e0 he0
    obtain ⟨hlen, os1, fr1, a1, a2, a3, a4, a5⟩ := QZ hs.M h1 hrel _ _ hh.left q
    rw [Si]
    obtain ⟨u', NH, os2, fr2, b1, b2, b3, b4, b5, b6⟩ := T0 hs h2 cv (j + scs.length) (by rw [← hlen]; exact hh.right) (q + (AH E N cv j q scs).2.length)
      { u with bx := O6 u.bx n (some { cs := (AH E N cv j q scs).1, dirty := true }), hp := (AH E N cv j q scs).2 ++ u.hp }
    refine ⟨u', (AH E N cv j q scs).2 ++ NH, os1 ++ os2, fr1 ++ fr2, a1.append b1, a2.append b2, fun p hp => (List.mem_append.1 hp).elim (a3 p) (b3 p), by rw [b4, List.length_append, Nat.add_assoc], fun k => ?_, fun sf hsub hf σ2 S hst hw => ?_⟩
    · rw [b5, Uq a2.row b2.row]
      cases AE NH k with
      | some x => rfl
      | none =>
        show AE ((AH E N cv j q scs).2 ++ u.hp) k = _
        rw [IB]
        cases AE (AH E N cv j q scs).2 k <;> rfl
    · obtain ⟨c1, c2⟩ := b6 sf hsub hf.right σ2 S hst (hw.right a2.len)
      refine ⟨fun k tv hk => ?_, fun k e hk => ?_⟩
      · rcases c1 k tv hk with h3 | ⟨h3, h4, h5⟩
        · exact .inl h3
        · exact .inr ⟨h3, h4, fun x hx => by have := h5 x hx; rw [List.length_append]; omega⟩
      · rcases c2 k e hk with h3 | ⟨h3, ⟨cs, h4⟩, h5, h6, h7⟩
        · have h3 : AE (O6 u.bx n (some { cs := (AH E N cv j q scs).1, dirty := true })) k = some e := h3
          rw [BM] at h3
          split at h3
          · rename_i hkn
            cases h3
            subst hkn
            exact .inr ⟨rfl, ⟨scs, List.mem_cons_self⟩, ⟨e0, he0⟩, ⟨blk, cells, el, hβ, hheap, a5 sf hsub hf.left σ2 S hst (hw.left a2.len)⟩, fun x hx => by have := a4 x hx; rw [List.length_append]; omega⟩
          · exact .inl h3
        · exact .inr ⟨h3, ⟨cs, List.mem_cons_of_mem _ h4⟩, h5, h6, fun x hx => by have := h7 x hx; rw [List.length_append]; omega⟩
structure Joined (P : Program) (n0 : Nz) (nt L : Nat) (β : Nat → Option Nat) (σ : Nat → Option (Nat × Nat)) (s : St0 E N) (a : Act) (w : World) (base : St0 E N) (sl : List Slot) (S : St0 E N) (σ2 : Nat → Option (Nat × Nat)) : Prop where
 sim : Sim P n0 nt β σ2 S a w
 ext : Ext P (fun n => L ≤ n) β σ s w β σ2 S w
 wf : WF S
 st : L ≤ S.st
 cleanB : ∀ n e, S.getB n = some e → e.dirty = false → base.getB n = some e
 cleanH : ∀ n e, S.getH n = some e → e.dirty = false → base.getH n = some e
 oldB : ∀ n e, S.getB n = some e → base.getB n = some e ∨ ∃ c, Slot.b n c ∈ sl
 oldH : ∀ n h, n < L → S.getH n = some h → base.getH n = some h
theorem gY (hs : Sim P n0 nt β σ s a w) {base : St0 E N} {L : Nat}
    (hbT : ∀ n tv, base.getT n = some tv → tv.gs = [] ∧ RelAV P n0 β σ s w tv.v (a.tmps.getD n undef) ∧ ∀ k ∈ tv.v.names, k < L)
    (hbB : ∀ n e, base.getB n = some e → n < L ∧ (∃ e', s.getB n = some e' ∧ e'.cs = e.cs) ∧ ∀ k ∈ AB e.cs, k < L)
    (hbH : ∀ n h, base.getH n = some h → n < L ∧ ∃ h', s.getH n = some h' ∧ h'.e = h.e ∧ h'.l = h.l ∧ h'.nw = h.nw ∧ h'.frozen = h.frozen)
    {rs : List SlotC} {cs : List (AC0 E N)} {vals : List Value} (hcs : RelCs P n0 β σ s w cs vals) {sl : List Slot} (hsl : ∀ b c, Slot.b b c ∈ sl → b < L) {ls1 ls2 : List Ab} {used : List Nat}
    (h1 : Ig (O := std E N) s (base.hp.map (·.1)) [] rs cs = .ok (ls1, used)) (h2 : C5 (O := std E N) s (base.hp.map (·.1)) used sl = .ok ls2) {cv : List PV} {j : Nat} (hcv : Holds cv j (ls1 ++ ls2)) :
    ∃ (σ2 : Nat → Option (Nat × Nat)) (S : St0 E N), S = BJ (O := std E N) cv (j + rs.length) (L + (AH E N cv j L rs).2.length) sl { base with hp := (AH E N cv j L rs).2 ++ base.hp } ∧
      RelCs P n0 β σ2 S w (AH E N cv j L rs).1 vals ∧ (∀ n ∈ AB (AH E N cv j L rs).1, n < S.st) ∧ Joined P n0 nt L β σ s a w base sl S σ2 := by
  obtain ⟨hlen, os1, fr1, a1, a2, a3, a4, a5⟩ := QZ hs.M h1 hcs _ _ hcv.left L
  obtain ⟨u', NH2, os2, fr2, b1, b2, b3, b4, b5, b6⟩ := T0 hs h2 cv (j + rs.length) (by rw [← hlen]; exact hcv.right) (L + (AH E N cv j L rs).2.length) { base with hp := (AH E N cv j L rs).2 ++ base.hp }
  generalize hS : BJ (O := std E N) cv (j + rs.length) (L + (AH E N cv j L rs).2.length) sl { base with hp := (AH E N cv j L rs).2 ++ base.hp } = S at *
  have enc := a1.append b1
  have ents := a2.append b2
  have hst : S.st = L + ((AH E N cv j L rs).2 ++ NH2).length := by rw [b4, List.length_append, Nat.add_assoc]
  have row := ents.row
  have gH : ∀ n, S.getH n = match AE ((AH E N cv j L rs).2 ++ NH2) n with | some h => some h | none => base.getH n := fun n => by
    rw [b5, Uq a2.row b2.row]
    cases AE NH2 n with
    | some x => rfl
    | none =>
      show AE ((AH E N cv j L rs).2 ++ base.hp) n = _
      rw [IB]
      cases AE (AH E N cv j L rs).2 n <;> rfl
  generalize hNH : (AH E N cv j L rs).2 ++ NH2 = NH at *
  generalize hos : os1 ++ os2 = os at *
  generalize hfr : fr1 ++ fr2 = fr at *
  let σ2 : Nat → Option (Nat × Nat) := fun n => if n < L then σ n else match os[n - L]? with
    | some (some i) => σ i
    | _ => none
  let sf := s.apply ({ hs := fr } : Wr (std E N))
  have subf : Sub s sf := enc.ok.sub rfl rfl
  have frz : Frz sf fr := enc.ok.frz rfl
  have sfB : ∀ n, sf.getB n = s.getB n := fun n => State.getB_apply0 s _ rfl n
  have sfH : ∀ n, n ∉ fr.map (·.1) → sf.getH n = s.getH n := fun n hn => C9 hn
  have lt : ∀ n h, AE NH n = some h → L ≤ n ∧ n < S.st := fun n h hh => by
    have := row.mem _ (row.get hh)
    rw [hst]; exact this
  have small : ∀ n h, n < L → S.getH n = some h → base.getH n = some h := fun n h hn hh => by
    rw [gH] at hh
    cases e : AE NH n with
    | none => rw [e] at hh; exact hh
    | some x => have := (lt n x e).1; omega
  have big : ∀ n h, L ≤ n → S.getH n = some h → (n, h) ∈ NH := fun n h hn hh => by
    rw [gH] at hh
    cases e : AE NH n with
    | none => rw [e] at hh; have := (hbH n h hh).1; omega
    | some x => rw [e] at hh; cases hh; exact row.get e
  have find : ∀ n h, (n, h) ∈ NH → ∃ i o, n = L + i ∧ os[i]? = some o ∧ ed P s h o ∧ h.frozen = false ∧ σ2 n = o.bind σ := fun n h hm => by
    obtain ⟨i, o, e1, e2, e3, e4⟩ := ents.find hm
    refine ⟨i, o, e1, e2, e3, e4, ?_⟩
    have h1 : ¬ n < L := by omega
    have h2 : n - L = i := by omega
    simp only [σ2, h1, if_false, h2, e2]
    cases o <;> rfl
  have sB : ∀ n e, S.getB n = some e → n < L ∧ (∃ e0, s.getB n = some e0) ∧ (∀ k ∈ AB e.cs, k < S.st) ∧ (e.dirty = false → base.getB n = some e) := fun n e hn => by
    have hw0 : ∃ σ2 S', (∀ nw b, StB n0 β σ sf nw b → StB n0 β σ2 S' nw b) ∧ Wired σ σ2 S' (L + (AH E N cv j L rs).2.length) os2 NH2 := by
      refine ⟨fun n => match os2[n - (L + (AH E N cv j L rs).2.length)]? with | some (some i) => σ i | _ => none, AP NH2, fun nw b hb => ⟨fun hm => ?_, hb.2⟩, SW (fun i o p h1 h2 => ⟨?_, ?_⟩)⟩
      · rcases hm with ⟨k, e, h1, _⟩ | ⟨k, h, cap, h1, h2, h3⟩
        · cases h1
        · obtain ⟨i, o, e1, e2, e3, e4⟩ := b2.find (b2.row.get h1)
          have : k - (L + (AH E N cv j L rs).2.length) = i := by omega
          simp only [this, e2] at h3
          cases o with
          | none => cases h3
          | some x =>
            obtain ⟨h0, q1, q2, q3, q4, q5⟩ := e3
            have hx : some x ∈ os := by rw [← hos]; exact List.mem_append_right _ (List.mem_of_getElem? e2)
            have hxf : x ∉ fr.map (·.1) := fun hm => by
              obtain ⟨y, hy, e⟩ := List.mem_map.1 hm
              exact enc.ap y hy (e ▸ hx)
            exact hb.1 (.inr ⟨x, h0, cap, by rw [sfH x hxf]; exact q1, q4, h3⟩)
      · have : L + (AH E N cv j L rs).2.length + i - (L + (AH E N cv j L rs).2.length) = i := by omega
        simp only [this, h1]
        cases o <;> rfl
      · have := b2.row.idx h2
        have hm := List.mem_of_getElem? h2
        have := b2.row.has (n := p.1) (h := p.2) hm
        rw [b2.row.idx h2] at this
        exact this
    obtain ⟨σ3, S3, hst3, hw3⟩ := hw0
    have hf2 : Frz sf fr2 := by rw [← hfr] at frz; exact frz.right
    obtain ⟨_, c2⟩ := b6 sf subf hf2 σ3 S3 hst3 hw3
    rcases c2 n e hn with h | ⟨h3, ⟨cs, h4⟩, h5, h6, h7⟩
    · obtain ⟨q1, ⟨e', q2, q3⟩, q4⟩ := hbB n e h
      exact ⟨q1, ⟨e', q2⟩, fun k hk => by have := q4 k hk; omega, fun _ => h⟩
    · refine ⟨hsl n cs h4, h5, fun k hk => ?_, fun hd => by rw [h3] at hd; cases hd⟩
      have := h7 k hk
      rw [← b4] at this; exact this
  have inMf : ∀ b, InM β σ2 S b → InM β σ sf b := fun b hb => by
    rcases hb with ⟨n, e, h1, h2⟩ | ⟨n, h, cap, h1, h2, h3⟩
    · obtain ⟨_, ⟨e0, h4⟩, _⟩ := sB n e h1
      exact .inl ⟨n, e0, by rw [sfB]; exact h4, h2⟩
    · rcases Nat.lt_or_ge n L with hn | hn
      · have hb := small n h hn h1
        obtain ⟨_, h', q1, q2, q3, q4, q5⟩ := hbH n h hb
        have hnf : n ∉ fr.map (·.1) := fun hm => by
          obtain ⟨y, hy, e⟩ := List.mem_map.1 hm
          obtain ⟨h0, r1, r2⟩ := enc.fz y hy
          rw [e, q1] at r1; cases r1
          rcases r2 with r2 | r2
          · rw [q5, h2] at r2; cases r2
          · exact r2.2.2 (by rw [e]; exact List.mem_map.2 ⟨(n, h), VF hb, rfl⟩)
        have : σ2 n = σ n := by simp only [σ2, hn, if_true]
        exact .inr ⟨n, h', cap, by rw [sfH n hnf]; exact q1, by rw [q5]; exact h2, by rw [← this]; exact h3⟩
      · obtain ⟨i, o, e1, e2, e3, e4, e5⟩ := find n h (big n h hn h1)
        rw [e5] at h3
        cases o with
        | none => cases h3
        | some x =>
          obtain ⟨h0, q1, q2, q3, q4, q5⟩ := e3
          have hx : some x ∈ os := List.mem_of_getElem? e2
          have hxf : x ∉ fr.map (·.1) := fun hm => by
            obtain ⟨y, hy, e⟩ := List.mem_map.1 hm
            exact enc.ap y hy (e ▸ hx)
          exact .inr ⟨x, h0, cap, by rw [sfH x hxf]; exact q1, q4, h3⟩
  have stf : ∀ nw b, StB n0 β σ sf nw b → StB n0 β σ2 S nw b := fun nw b hb => ⟨fun hm => hb.1 (inMf b hm), hb.2⟩
  have wired : Wired σ σ2 S L os NH := SW (fun i o p h1 h2 => by
    have hidx := row.idx h2
    have hm := List.mem_of_getElem? h2
    refine ⟨?_, ?_⟩
    · have h3 : ¬ L + i < L := by omega
      have h4 : L + i - L = i := by omega
      simp only [σ2, h3, if_false, h4, h1]
      cases o <;> rfl
    · rw [gH]
      have := row.has (n := p.1) (h := p.2) hm
      rw [hidx] at this
      rw [this])
  have hw1 : Wired σ σ2 S L os1 (AH E N cv j L rs).2 := by rw [← hos, ← hNH] at wired; exact wired.left a2.len
  have hw2 : Wired σ σ2 S (L + (AH E N cv j L rs).2.length) os2 NH2 := by rw [← hos, ← hNH] at wired; exact wired.right a2.len
  have hf1 : Frz sf fr1 := by rw [← hfr] at frz; exact frz.left
  have hf2 : Frz sf fr2 := by rw [← hfr] at frz; exact frz.right
  obtain ⟨c1, c2⟩ := b6 sf subf hf2 σ2 S stf hw2
  have x : Ext P (fun n => L ≤ n) β σ s w β σ2 S w := by
    refine ⟨rfl, rfl, rfl, Nat.le_refl _, fun _ _ _ => rfl, fun b hb => .inl (subf.inM (inMf b hb)), fun b e he _ => ⟨(sB b e he).2.1, rfl⟩, fun n h hh hn => ?_⟩
    have hn : n < L := Nat.lt_of_not_le hn
    obtain ⟨_, h', q1, q2, q3, q4, q5⟩ := hbH n h (small n h hn hh)
    exact ⟨h', q1, by simp only [σ2, hn, if_true], q2.symm, by rw [q3]⟩
  have stS : ∀ nw b, StB n0 β σ s nw b → StB n0 β σ2 S nw b := fun nw b hb => ⟨fun hm => hb.1 (subf.inM (inMf b hm)), hb.2⟩
  have mem : Mem P n0 β σ2 S w := by
    refine ⟨fun n e he => ?_, fun n h hh => ?_, fun b b' e e' blk h h' hb hb' => ?_, fun n n' h h' blk cap cap' hh hh' h1 h2 => ?_, fun b e n h blk cap he hh h1 h2 => ?_⟩
    · rcases c2 n e he with h | ⟨_, _, _, h6, _⟩
      · obtain ⟨q1, ⟨e', q2, q3⟩, q4⟩ := hbB n e h
        obtain ⟨blk, cells, el, r1, r2, r3⟩ := hs.M.B n e' q2
        rw [q3] at r3
        exact ⟨blk, cells, el, r1, r2, x.relCs (fun k hk hL => by have := q4 k hk; omega) r3⟩
      · exact h6
    · rcases Nat.lt_or_ge n L with hn | hn
      · obtain ⟨_, h', q1, q2, q3, q4, q5⟩ := hbH n h (small n h hn hh)
        exact (hs.M.H n h' q1).view q2.symm q3.symm (by simp only [σ2, hn, if_true]) (fun _ _ _ ho => by rw [← q4]; exact ho) (fun b hb => by rw [← q4]; exact stS _ b hb)
      · obtain ⟨i, o, e1, e2, e3, e4, e5⟩ := find n h (big n h hn hh)
        cases o with
        | none =>
          obtain ⟨r1, t, ts, r2, r3⟩ := e3
          exact ⟨t, ts, r2, r3, fun y hy => (by rw [r1] at hy; simp at hy), .inl ⟨e5, r1⟩⟩
        | some y =>
          obtain ⟨h0, q1, q2, q3, q4, q5⟩ := e3
          exact (hs.M.H y h0 q1).view q2 q3 e5 (fun _ _ _ ho => ho.mono q5) (fun b hb => ⟨(stS _ b hb).1, hb.2.mono q5⟩)
    · obtain ⟨_, ⟨e0, r1⟩, _⟩ := sB b e h
      obtain ⟨_, ⟨e1, r2⟩, _⟩ := sB b' e' h'
      exact hs.M.uB b b' e0 e1 blk r1 r2 hb hb'
    ·
      have src : ∀ n h cap, S.getH n = some h → σ2 n = some (blk, cap) → ∃ y h0, s.getH y = some h0 ∧ σ y = some (blk, cap) ∧ ((n < L ∧ y = n ∧ n ∈ base.hp.map (·.1)) ∨ (L ≤ n ∧ os[n - L]? = some (some y))) := fun n h cap hh h1 => by
        rcases Nat.lt_or_ge n L with hn | hn
        · have hb := small n h hn hh
          obtain ⟨_, h', q1, _⟩ := hbH n h hb
          simp only [σ2, hn, if_true] at h1
          exact ⟨n, h', q1, h1, .inl ⟨hn, rfl, List.mem_map.2 ⟨(n, h), VF hb, rfl⟩⟩⟩
        · obtain ⟨i, o, e1, e2, e3, e4, e5⟩ := find n h (big n h hn hh)
          rw [e5] at h1
          cases o with
          | none => cases h1
          | some y =>
            obtain ⟨h0, q1, _⟩ := e3
            have : n - L = i := by omega
            exact ⟨y, h0, q1, h1, .inr ⟨hn, by rw [this]; exact e2⟩⟩
      obtain ⟨y, h0, r1, r2, r3⟩ := src n h cap hh h1
      obtain ⟨y', h0', r1', r2', r3'⟩ := src n' h' cap' hh' h2
      have hy := hs.M.uH y y' h0 h0' blk cap cap' r1 r1' r2 r2'
      subst hy
      rcases r3 with ⟨g1, g2, g3⟩ | ⟨g1, g2⟩ <;> rcases r3' with ⟨k1, k2, k3⟩ | ⟨k1, k2⟩
      · omega
      · exact ((enc.src y (List.mem_of_getElem? k2)).2.2.1 (g2 ▸ g3)).elim
      · exact ((enc.src y (List.mem_of_getElem? g2)).2.2.1 (k2 ▸ k3)).elim
      · have := Qi enc.nd g2 k2
        omega
    · obtain ⟨_, ⟨e0, r1⟩, _⟩ := sB b e he
      rcases Nat.lt_or_ge n L with hn | hn
      · obtain ⟨_, h', q1, _⟩ := hbH n h (small n h hn hh)
        simp only [σ2, hn, if_true] at h2
        exact hs.M.uX b e0 n h' blk cap r1 q1 h1 h2
      · obtain ⟨i, o, e1, e2, e3, e4, e5⟩ := find n h (big n h hn hh)
        rw [e5] at h2
        cases o with
        | none => cases h2
        | some y =>
          obtain ⟨h0, q1, _⟩ := e3
          exact hs.M.uX b e0 y h0 blk cap r1 q1 h1 h2
  have hLst : L ≤ S.st := by rw [hst]; omega
  refine ⟨σ2, S, rfl, a5 sf subf hf1 σ2 S stf hw1, fun n hn => ?_, ⟨hs.n0le, hs.size, fun n tv hn => ?_, mem⟩, x, ⟨fun n hn => ⟨⟨fun k e he => ?_, fun k h hh => ?_⟩, fun k tv hk => ?_⟩, fun n tv hn => ?_⟩, hLst, fun n e he hd => (sB n e he).2.2.2 hd, fun n h hh hd => ?_, fun n e he => ?_, fun n h hn hh => small n h hn hh⟩
  · have := a4 n hn
    rw [hst, ← hNH, List.length_append]; omega
  · rcases c1 n tv hn with h | ⟨h3, h4, _⟩
    · obtain ⟨q1, q2, q3⟩ := hbT n tv h
      exact .inl ⟨fun n b hm => by rw [q1] at hm; simp at hm, x.relAV (fun k hk hL => by have := q3 k hk; omega) q2⟩
    · exact .inl ⟨fun n b hm => by rw [h3] at hm; simp at hm, h4⟩
  · obtain ⟨r1, _, r3, _⟩ := sB k e he
    exact ⟨by omega, fun hm => by have := r3 n hm; omega⟩
  · rcases Nat.lt_or_ge k L with hk | hk
    · omega
    · have := row.mem _ (big k h hk hh)
      simp at this; omega
  · rcases c1 k tv hk with h | ⟨_, _, h5⟩
    · obtain ⟨_, _, q3⟩ := hbT k tv h
      intro hm; have := q3 n hm; omega
    · intro hm; have := h5 n hm; rw [← b4] at this; omega
  · rcases c1 n tv hn with h | ⟨h3, _⟩
    · exact (hbT n tv h).1
    · exact h3
  · rcases Nat.lt_or_ge n L with hn | hn
    · exact small n h hn hh
    · have hm := big n h hn hh
      have : h.dirty = true := by
        rw [← hNH] at hm
        exact (List.mem_append.1 hm).elim (a3 (n, h)) (b3 (n, h))
      rw [this] at hd; cases hd
  · rcases c2 n e he with h | ⟨_, h4, _⟩
    · exact .inl h
    · exact .inr h4
end
end Go.Px
end
section
namespace Go.Px
def Ms.le (a b : Ms) : Prop := ∀ n, (a.t.testBit n = true → b.t.testBit n = true) ∧ (a.r.testBit n = true → b.r.testBit n = true)
theorem Ms.le_refl (a : Ms) : a.le a := fun _ => ⟨id, id⟩
theorem Ms.le_trans {a b c : Ms} (h : a.le b) (k : b.le c) : a.le c := fun n => ⟨fun x => (k n).1 ((h n).1 x), fun x => (k n).2 ((h n).2 x)⟩
theorem Ms.le_or_left (a b : Ms) : a.le (a.or b) := fun n => ⟨fun h => by simp [Ms.or, Nat.testBit_or, h], fun h => by simp [Ms.or, Nat.testBit_or, h]⟩
theorem Ms.le_or_right (a b : Ms) : b.le (a.or b) := fun n => ⟨fun h => by simp [Ms.or, Nat.testBit_or, h], fun h => by simp [Ms.or, Nat.testBit_or, h]⟩
theorem Ms.or_le {a b c : Ms} (h : a.le c) (k : b.le c) : (a.or b).le c := fun n => by
 simp only [Ms.or, Nat.testBit_or, Bool.or_eq_true]
 exact ⟨fun x => x.elim (h n).1 (k n).1, fun x => x.elim (h n).2 (k n).2⟩
def An.at (a : An) : Ex → Option Ms
 | .nrm => a.nrm
 | .ret => a.ret
 | .ext id => Ar a.exts id
def Wide (o : Option Ms) (m : Ms) : Prop := ∃ m2, o = some m2 ∧ m.le m2
theorem Wide.of {o : Option Ms} {m m' : Ms} (h : o = some m') (k : m.le m') : Wide o m := ⟨m', h, k⟩
theorem Wide.orL {o p : Option Ms} {m : Ms} (h : Wide o m) : Wide (Sh o p) m := by
 obtain ⟨m2, rfl, h⟩ := h
 cases p with
 | none => exact ⟨m2, rfl, h⟩
 | some q => exact ⟨m2.or q, rfl, Ms.le_trans h (Ms.le_or_left _ _)⟩
theorem Wide.orR {o p : Option Ms} {m : Ms} (h : Wide p m) : Wide (Sh o p) m := by
 obtain ⟨m2, rfl, h⟩ := h
 cases o with
 | none => exact ⟨m2, rfl, h⟩
 | some q => exact ⟨q.or m2, rfl, Ms.le_trans h (Ms.le_or_right _ _)⟩
theorem Wide.then {m1 : Ms} {o : Option Ms} {m : Ms} (h : Wide o m) : Wide (YO m1 o) (m1.or m) := by
 obtain ⟨m2, rfl, h⟩ := h
 exact ⟨m1.or m2, rfl, Ms.or_le (Ms.le_or_left _ _) (Ms.le_trans h (Ms.le_or_right _ _))⟩
theorem WG {l : List (Nat × Ms)} {k j : Nat} : Ar (Kt l k) j = if j = k then none else Ar l j := by
 induction l with
 | nil => simp [Kt, Ar]
 | cons x l ih =>
  obtain ⟨i, m⟩ := x
  simp only [Kt]
  cases h : Nat.beq i k with
  | true =>
   have := AA.1 h; subst this
   simp only [ih, Ar]
   by_cases hj : j = i
   ·simp [hj]
   ·rw [if_neg hj, if_neg hj, BD.2 (fun e => hj e.symm)]
  | false =>
   have hik := BD.1 h
   simp only [Ar, ih]
   cases h2 : Nat.beq i j with
   | true =>
    have := AA.1 h2; subst this
    simp [hik]
   | false => rfl
theorem Wide.add {l : List (Nat × Ms)} {k j : Nat} {m x : Ms} (h : Wide (Ar l j) m) : Wide (Ar (SF l k x) j) m := by
 unfold SF
 split
 ·rename_i m' hm'
  simp only [Ar]
  split
  ·rename_i he
   have := AA.1 he; subst this
   obtain ⟨m2, h1, h2⟩ := h
   rw [hm'] at h1; cases h1
   exact ⟨_, rfl, Ms.le_trans h2 (Ms.le_or_left _ _)⟩
  ·rename_i he
   rw [WG, if_neg (fun e => BD.1 he e.symm)]; exact h
 ·rename_i hn
  simp only [Ar]
  split
  ·rename_i he
   have := AA.1 he; subst this
   obtain ⟨m2, h1, h2⟩ := h
   rw [hn] at h1; cases h1
  ·exact h
theorem dy {l : List (Nat × Ms)} {k : Nat} {x : Ms} : Wide (Ar (SF l k x) k) x := by
 unfold SF
 split
 ·simp only [Ar, AA.2 rfl]; exact ⟨_, rfl, Ms.le_or_right _ _⟩
 ·simp only [Ar, AA.2 rfl]; exact ⟨_, rfl, Ms.le_refl _⟩
theorem Wide.allR {j : Nat} {m : Ms} : ∀ {l r : List (Nat × Ms)}, Wide (Ar r j) m → Wide (Ar (PE l r) j) m
 | [], r, h => h
 | (k, x) :: l, r, h => Wide.allR (l := l) h.add
theorem Wide.allL {j : Nat} {m : Ms} : ∀ {l r : List (Nat × Ms)}, Wide (Ar l j) m → Wide (Ar (PE l r) j) m
 | [], r, h => by obtain ⟨m2, h1, _⟩ := h; simp [Ar] at h1
 | (k, x) :: l, r, h => by
  simp only [Ar] at h
  simp only [PE]
  split at h
  ·rename_i he
   have := AA.1 he; subst this
   obtain ⟨m2, h1, h2⟩ := h
   cases h1
   refine Wide.allR ?_
   obtain ⟨m3, h3, h4⟩ := dy (l := r) (k := k) (x := x)
   exact ⟨m3, h3, Ms.le_trans h2 h4⟩
  ·exact Wide.allL (l := l) h
theorem Wide.map {j : Nat} {m m1 : Ms} {l : List (Nat × Ms)} (h : Wide (Ar l j) m) : Wide (Ar (l.map fun (k, x) => (k, m1.or x)) j) (m1.or m) := by
 induction l with
 | nil => obtain ⟨m2, h1, _⟩ := h; simp [Ar] at h1
 | cons x l ih =>
  obtain ⟨k, x⟩ := x
  simp only [List.map_cons, Ar] at h ⊢
  split at h
  ·rename_i he
   obtain ⟨m2, h1, h2⟩ := h
   cases h1
   exact ⟨_, rfl, Ms.or_le (Ms.le_or_left _ _) (Ms.le_trans h2 (Ms.le_or_right _ _))⟩
  ·rename_i he
   exact ih h
theorem Pv : ∀ {l : List Oper} {n : Nat}, n ∈ AW l → (VZ l).testBit n = true
 | [], n, h => by simp [AW] at h
 | o :: l, n, h => by
  simp only [AW] at h
  simp only [VZ, Nat.testBit_or, Bool.or_eq_true]
  cases hd : o.dst with
  | none => rw [hd] at h; exact .inr (Pv h)
  | some d =>
   rw [hd] at h
   rcases List.mem_cons.1 h with rfl | h
   ·exact .inl (FB.2 rfl)
   ·exact .inr (Pv h)
theorem XT {m n : Nat} : ∀ {k : Nat} {acc : List Nat}, n ∈ Lw m k acc ↔ n ∈ acc ∨ (m.testBit n = true ∧ n ≤ k)
 | 0, acc => by
  simp only [Lw]
  cases h : m.testBit 0 with
  | true =>
   simp only [List.mem_cons]
   constructor
   ·rintro (rfl | h1)
    ·exact .inr ⟨h, Nat.le_refl _⟩
    ·exact .inl h1
   ·rintro (h1 | ⟨h1, h2⟩)
    ·exact .inr h1
    ·exact .inl (by omega)
  | false =>
   constructor
   ·exact .inl
   ·rintro (h1 | ⟨h1, h2⟩)
    ·exact h1
    ·have : n = 0 := by omega
     subst this; rw [h] at h1; cases h1
 | k + 1, acc => by
  simp only [Lw]
  rw [XT]
  cases h : m.testBit (k + 1) with
  | true =>
   simp only [List.mem_cons]
   constructor
   ·rintro ((rfl | h1) | ⟨h1, h2⟩)
    ·exact .inr ⟨h, Nat.le_refl _⟩
    ·exact .inl h1
    ·exact .inr ⟨h1, by omega⟩
   ·rintro (h1 | ⟨h1, h2⟩)
    ·exact .inl (.inr h1)
    ·by_cases e : n = k + 1
     ·exact .inl (.inl e)
     ·exact .inr ⟨h1, by omega⟩
  | false =>
   constructor
   ·rintro (h1 | ⟨h1, h2⟩)
    ·exact .inl h1
    ·exact .inr ⟨h1, by omega⟩
   ·rintro (h1 | ⟨h1, h2⟩)
    ·exact .inl h1
    ·by_cases e : n = k + 1
     ·subst e; rw [h] at h1; cases h1
     ·exact .inr ⟨h1, by omega⟩
theorem Ye {m n : Nat} (h : m.testBit n = true) : n ≤ m.log2 := by
 have h1 := Nat.ge_two_pow_of_testBit h
 have hm : m ≠ 0 := by rintro rfl; simp at h
 rcases Nat.lt_or_ge m.log2 n with h2 | h2
 ·exfalso
  have h3 := (Nat.log2_lt hm).1 h2
  omega
 ·exact h2
theorem XJ {m n : Nat} : n ∈ Lw m (Ro m) [] ↔ m.testBit n = true := by
 rw [XT]
 constructor
 ·rintro (h | ⟨h, _⟩)
  ·simp at h
  ·exact h
 ·intro h; exact .inr ⟨h, Ye h⟩
section
variable {E : Env} {N : Nat} {P : Program} {cfg : Cfg} {n0 n0' : Nz} {nt : Nat} {β β' : Nat → Option Nat} {σ σ' : Nat → Option (Nat × Nat)} {s s' s2 : St0 E N} {a a' : Act} {w w' : World}
theorem ZW : ∀ {l : List Nat} {t : TM (TV (std E N))} {n : Nat} {tv : TV (std E N)}, CQ (aD t l) n = some tv → CQ t n = some tv ∧ n ∉ l
 | [], t, n, tv, h => ⟨h, by simp⟩
 | k :: l, t, n, tv, h => by
  simp only [aD] at h
  obtain ⟨h1, h2⟩ := ZW h
  rw [DA] at h1
  split at h1
  ·cases h1
  ·rename_i hk
   refine ⟨h1, fun hm => ?_⟩
   rcases List.mem_cons.1 hm with rfl | hm
   ·by_cases hb : n < Cv
    ·exact hk ⟨rfl, hb⟩
    ·have : CQ t n = none := by
      unfold CQ
      cases hx : Nat.blt n Cv with
      | false => rfl
      | true => exact (hb (BL.1 hx)).elim
     rw [this] at h1; cases h1
   ·exact h2 hm
theorem IG {l : List Nat} {n : Nat} {e : BEnt (std E N)} : AE (LY s l) n = some e ↔ s.getB n = some e ∧ n ∉ l := by
 unfold LY
 have := PR (fun n => !Di n l) s.bx n
 rw [this]
 cases h : Di n l with
 | true => have := CT.1 h; simp [this]
 | false =>
  have : n ∉ l := fun hm => by rw [CT.2 hm] at h; cases h
  simp [this, State.getB]
theorem II {l : List Nat} {n : Nat} {e : HEnt (std E N)} : AE (NA s l) n = some e ↔ s.getH n = some e ∧ n ∉ l := by
 unfold NA
 have := PR (fun n => !Di n l) s.hp n
 rw [this]
 cases h : Di n l with
 | true => have := CT.1 h; simp [this]
 | false =>
  have : n ∉ l := fun hm => by rw [CT.2 hm] at h; cases h
  simp [this, State.getH]
theorem Sp : ∀ {l : List (Nat × BEnt (std E N))}, NW s l = true → ∀ {n : Nat} {e : BEnt (std E N)}, AE l n = some e → ∃ e', s.getB n = some e' ∧ e'.dirty = false
 | [], _, n, e, h => by simp [AE] at h
 | (k, x) :: l, hc, n, e, h => by
  simp only [NW] at hc
  split at hc
  ·rename_i e' he'
   split at hc
   ·cases hc
   ·rename_i hd
    simp only [AE] at h
    split at h
    ·rename_i hk
     have := AA.1 hk; subst this
     exact ⟨e', he', hd⟩
    ·exact Sp hc h
  ·cases hc
theorem SL : ∀ {l : List (Nat × HEnt (std E N))}, NY s l = true → ∀ {n : Nat} {e : HEnt (std E N)}, AE l n = some e → ∃ e', s.getH n = some e' ∧ e'.dirty = false
 | [], _, n, e, h => by simp [AE] at h
 | (k, x) :: l, hc, n, e, h => by
  simp only [NY] at hc
  split at hc
  ·rename_i e' he'
   split at hc
   ·cases hc
   ·rename_i hd
    simp only [AE] at h
    split at h
    ·rename_i hk
     have := AA.1 hk; subst this
     exact ⟨e', he', hd⟩
    ·exact SL hc h
  ·cases hc
theorem IV : ∀ {l seen : List Nat} {sl : List Slot}, IX cfg s l seen = some sl → (∀ b c, Slot.b b c ∈ sl → b ∈ l ∧ ∃ e, s.getB b = some e) ∧ ∀ x ∈ sl, ∃ b c, x = Slot.b b c
 | [], seen, sl, h => by simp only [IX] at h; cases h; exact ⟨fun b c h => by simp at h, fun x h => by simp at h⟩
 | k :: l, seen, sl, h => by
  simp only [IX] at h
  split at h
  ·obtain ⟨h1, h2⟩ := IV h
   exact ⟨fun b c hm => ⟨List.mem_cons_of_mem _ (h1 b c hm).1, (h1 b c hm).2⟩, h2⟩
  ·split at h
   ·obtain ⟨h1, h2⟩ := IV h
    exact ⟨fun b c hm => ⟨List.mem_cons_of_mem _ (h1 b c hm).1, (h1 b c hm).2⟩, h2⟩
   ·rename_i e he
    split at h
    ·rename_i cs r hc hr
     cases h
     obtain ⟨h1, h2⟩ := IV hr
     refine ⟨fun b c hm => ?_, fun x hx => ?_⟩
     ·rcases List.mem_cons.1 hm with e1 | hm
      ·cases e1; exact ⟨List.mem_cons_self, e, he⟩
      ·exact ⟨List.mem_cons_of_mem _ (h1 b c hm).1, (h1 b c hm).2⟩
     ·rcases List.mem_cons.1 hx with rfl | hx
      ·exact ⟨k, cs, rfl⟩
      ·exact h2 x hx
    ·cases h
theorem LD : ∀ {l : List Nat} {b : Nat} {c : List SlotC}, Slot.b b c ∉ KJ cfg s l
 | [], b, c, h => by simp [KJ] at h
 | n :: l, b, c, h => by
  simp only [KJ] at h
  split at h
  ·split at h
   ·rcases List.mem_cons.1 h with e | h
    ·cases e
    ·exact LD h
   ·exact LD h
  ·exact LD h
theorem WA {m : Ms} {b : Nat} : b ∈ CG s m ↔ ∃ n, m.r.testBit n = true ∧ b ∈ Yy s n := by
 unfold CG Yj
 simp only [List.mem_flatten, List.mem_map]
 constructor
 ·rintro ⟨l, ⟨n, hn, rfl⟩, hb⟩; exact ⟨n, XJ.1 hn, hb⟩
 ·rintro ⟨n, hn, hb⟩; exact ⟨_, ⟨n, XJ.2 hn, rfl⟩, hb⟩
theorem bG {m m' : Ms} (h : m.le m') {b : Nat} (hb : b ∈ CG s m) : b ∈ CG s m' := by
 obtain ⟨n, h1, h2⟩ := WA.1 hb
 exact WA.2 ⟨n, (h n).2 h1, h2⟩
theorem G4 {e : Ex} {m : Ms} {live : Nat} {x : Way (std E N)} (h : M5 cfg s e m live = .ok x) : x.e = e ∧ x.base.st = s.st ∧ x.base.bx = LY s (CG s m) ∧ x.base.hp = NA s (PB s m) ∧
    (∀ n tv, x.base.getT n = some tv → s.getT n = some tv ∧ ¬ m.t.testBit n = true) ∧ ∀ b c, Slot.b b c ∈ x.slots → b ∈ CG s m ∧ ∃ e, s.getB b = some e := by
  unfold M5 at h
  split at h
  · cases h
  rename_i sl hl
  cases h
  refine ⟨rfl, rfl, rfl, rfl, fun n tv hn => ?_, fun b c hm => ?_⟩
  · obtain ⟨h1, h2⟩ := ZW hn
    exact ⟨h1, fun hb => h2 (XJ.2 hb)⟩
  · unfold gJ at hl
    simp only at hl
    split at hl
    · rename_i l hbx
      cases hl
      rcases List.mem_append.1 hm with hm | hm
      · exact (LD hm).elim
      · obtain ⟨h1, _⟩ := IV hbx
        obtain ⟨h2, h3⟩ := h1 b c hm
        refine ⟨?_, h3⟩
        unfold CG
        simp only [List.mem_flatten, List.mem_map] at h2 ⊢
        obtain ⟨q, ⟨n, hn, rfl⟩, hq⟩ := h2
        exact ⟨_, ⟨n, (List.mem_filter.1 hn).1, rfl⟩, hq⟩
    · cases hl
end
end Go.Px
end
section
namespace Go.Px
section
variable {E : Env} {N : Nat} {P : Program} {cfg : Cfg} {n0 n0' : Nz} {nt : Nat} {β β' : Nat → Option Nat} {σ σ' : Nat → Option (Nat × Nat)} {s s' s2 : St0 E N} {a a' : Act} {w w' : World}
theorem U1 {n : Nat} : (cleaned s).getB n = (s.getB n).map fun e => { e with dirty := false } := by
 show AE (s.bx.map fun (n, e) => (n, { e with dirty := false })) n = _
 exact Q9 (fun e : BEnt (std E N) => { e with dirty := false }) s.bx n
theorem Uj {n : Nat} : (cleaned s).getH n = (s.getH n).map fun e => { e with dirty := false } := by
 show AE (s.hp.map fun (n, e) => (n, { e with dirty := false })) n = _
 exact Q9 (fun e : HEnt (std E N) => { e with dirty := false }) s.hp n
theorem HT : Sub s (cleaned s) where
 b n e h := by
  rw [U1] at h
  obtain ⟨e0, h0, rfl⟩ := Option.map_eq_some_iff.1 h
  exact ⟨e0, h0, rfl⟩
 h n e h := by
  rw [Uj] at h
  obtain ⟨e0, h0, rfl⟩ := Option.map_eq_some_iff.1 h
  exact ⟨e0, h0, rfl, rfl, rfl, fun h => h⟩
theorem Sim.cleaned (hs : Sim P n0 nt β σ s a w) : Sim P n0 nt β σ (cleaned s) a w :=
 ⟨hs.n0le, hs.size, fun n tv hn => by
  rcases hs.T n tv hn with ⟨h1, h2⟩ | h1
  ·exact .inl ⟨h1, (HT.ext P (fun _ => False) β σ w).relAV (fun _ _ h => h) h2⟩
  ·exact .inr h1, HT.mem hs.M⟩
theorem WF.cleaned (h : WF s) : WF (cleaned s) :=
 ⟨fun n hn => ⟨⟨fun k e he => by
  obtain ⟨e0, h0, hc⟩ := HT.b k e he
  have := (h.fresh n hn).1.1 k e0 h0
  exact ⟨this.1, by rw [hc]; exact this.2⟩, fun k e he => by
  obtain ⟨e0, h0, _⟩ := HT.h k e he
  exact (h.fresh n hn).1.2 k e0 h0⟩, (h.fresh n hn).2⟩, h.gs⟩
structure Since (P : Program) (n0 : Nz) (nt : Nat) (m : Ms) (β : Nat → Option Nat) (σ : Nat → Option (Nat × Nat)) (s : St0 E N) (a : Act) (w : World) (β' : Nat → Option Nat) (σ' : Nat → Option (Nat × Nat)) (s' : St0 E N) (a' : Act) (w' : World) : Prop where
 sim : Sim P n0 nt β' σ' s' a' w'
 ext : Ext P (fun n => s.st ≤ n) β σ s w β' σ' s' w'
 tmps : ∀ n, ¬ m.t.testBit n = true → a'.tmps.getD n undef = a.tmps.getD n undef
 defers : a'.defers = a.defers
 B : ∀ n e e', s.getB n = some e → n ∉ CG s m → s'.getB n = some e' → e'.dirty = false → e'.cs = e.cs
 H : ∀ n e e', s.getH n = some e → n ∉ PB s m → s'.getH n = some e' → e'.dirty = false → e'.e = e.e ∧ e'.l = e.l ∧ e'.nw = e.nw ∧ e'.frozen = e.frozen
theorem Post.since {m : Ms} (h : Post P n0 nt s.st (fun n => m.t.testBit n = true) β σ (cleaned s) a w β' σ' s' a' w') : Since P n0 nt m β σ s a w β' σ' s' a' w' where
 sim := h.sim
 ext := ((HT.ext P (fun _ => False) β σ w).trans h.ext).weaken (fun n h => h.elim (fun h => h.elim) (fun h => h))
 tmps := h.tmps
 defers := h.defers
 B n e e' h1 _ h2 h3 := by
  have := h.cleanB n e' h2 h3
  rw [U1, h1] at this
  cases this; rfl
 H n e e' h1 _ h2 h3 := by
  have := h.cleanH n e' h2 h3
  rw [Uj, h1] at this
  cases this; exact ⟨rfl, rfl, rfl, rfl⟩
theorem Since.weaken {m m' : Ms} (h : Since P n0 nt m β σ s a w β' σ' s' a' w') (hle : ∀ n, m.t.testBit n = true → m'.t.testBit n = true) (hB : ∀ n, n ∈ CG s m → n ∈ CG s m') (hH : ∀ n, n ∈ PB s m → n ∈ PB s m') :
    Since P n0 nt m' β σ s a w β' σ' s' a' w' :=
  ⟨h.sim, h.ext, fun n hn => h.tmps n (fun k => hn (hle n k)), h.defers, fun n e e' h1 h2 => h.B n e e' h1 (fun k => h2 (hB n k)), fun n e e' h1 h2 => h.H n e e' h1 (fun k => h2 (hH n k))⟩
theorem W8 (hs : Sim P n0 nt β σ s a w) (wf : WF s) {e : Ex} {m : Ms} {live : Nat} {x : Way (std E N)} (hx : M5 cfg s e m live = .ok x) (h : Since P n0 nt m β σ s a w β' σ' s' a' w')
    (hcB : ∀ n e, AE x.base.bx n = some e → ∃ e', s'.getB n = some e' ∧ e'.cs = e.cs) (hcH : ∀ n e, AE x.base.hp n = some e → ∃ e', s'.getH n = some e' ∧ e'.e = e.e ∧ e'.l = e.l ∧ e'.nw = e.nw ∧ e'.frozen = e.frozen)
    {ls : List Ab} (henc : C5 (O := std E N) s' (x.base.hp.map (·.1)) [] x.slots = .ok ls) {cv : List PV} {j : Nat} (hcv : Holds cv j ls) :
    ∃ σ2, Joined P n0 nt s.st β' σ' s' a' w' x.base x.slots (BJ (O := std E N) cv j x.base.st x.slots x.base) σ2 := by
  obtain ⟨h1, h2, h3, h4, h5, h6⟩ := G4 hx
  have nm : ∀ {n : Nat} {P : Prop}, n < s.st ∨ P → (s.st ≤ n → ¬ P) → n < s.st := fun h k => h.elim id (fun p => Nat.lt_of_not_le (fun hle => k hle p))
  suffices hh : ∃ (σ2 : Nat → Option (Nat × Nat)) (S : St0 E N), S = BJ (O := std E N) cv (j + ([] : List SlotC).length) (s.st + (AH E N cv j s.st []).2.length) x.slots { x.base with hp := (AH E N cv j s.st []).2 ++ x.base.hp } ∧
      RelCs P n0 β' σ2 S w' (AH E N cv j s.st []).1 [] ∧ (∀ n ∈ AB (AH E N cv j s.st []).1, n < S.st) ∧ Joined P n0 nt s.st β' σ' s' a' w' x.base x.slots S σ2 by
    obtain ⟨σ2, S, hS, _, _, hj⟩ := hh
    refine ⟨σ2, ?_⟩
    have : BJ (O := std E N) cv j x.base.st x.slots x.base = S := by
      rw [hS]
      show BJ (O := std E N) cv j x.base.st x.slots x.base = BJ cv j s.st x.slots x.base
      rw [h2]
    rw [this]; exact hj
  refine gY (L := s.st) (base := x.base) (rs := []) (cs := []) (vals := []) h.sim (fun n tv hn => ?_) (fun n e he => ?_) (fun n e he => ?_) trivial (fun b c hm => ?_) (used := []) (ls1 := []) rfl henc (cv := cv) (j := j) (by simpa using hcv)
  · obtain ⟨g1, g2⟩ := h5 n tv hn
    have hlt : ∀ k ∈ tv.v.names, k < s.st := fun k hk => Nat.lt_of_not_le (fun hle => (wf.fresh k hle).2 n tv g1 hk)
    refine ⟨wf.gs n tv g1, ?_, hlt⟩
    rw [h.tmps n g2]
    rcases hs.T n tv g1 with ⟨_, q⟩ | ⟨q, _⟩
    · exact h.ext.relAV (fun k hk hn => by have := hlt k hk; omega) q
    · exact (q (fun n b hm => by rw [wf.gs _ tv g1] at hm; simp at hm)).elim
  · have he' : AE x.base.bx n = some e := he
    have g3 := hcB n e he'
    rw [h3] at he'
    obtain ⟨g1, g2⟩ := IG.1 he'
    exact ⟨Nat.lt_of_not_le (fun hle => ((wf.fresh n hle).1.1 n e g1).1 rfl), g3, fun k hk => Nat.lt_of_not_le (fun hle => ((wf.fresh k hle).1.1 n e g1).2 hk)⟩
  · have he' : AE x.base.hp n = some e := he
    have g3 := hcH n e he'
    rw [h4] at he'
    obtain ⟨g1, g2⟩ := II.1 he'
    exact ⟨Nat.lt_of_not_le (fun hle => (wf.fresh n hle).1.2 n e g1 rfl), g3⟩
  · obtain ⟨_, e, he⟩ := h6 b c hm
    exact Nat.lt_of_not_le (fun hle => ((wf.fresh b hle).1.1 b e he).1 rfl)
theorem Since.kept {e : Ex} {m : Ms} {live : Nat} {x : Way (std E N)} (hx : M5 cfg s e m live = .ok x) (h : Since P n0 nt m β σ s a w β' σ' s' a' w') (hcB : NW s' x.base.bx = true) (hcH : NY s' x.base.hp = true) :
    (∀ n e, AE x.base.bx n = some e → ∃ e', s'.getB n = some e' ∧ e'.cs = e.cs) ∧ (∀ n e, AE x.base.hp n = some e → ∃ e', s'.getH n = some e' ∧ e'.e = e.e ∧ e'.l = e.l ∧ e'.nw = e.nw ∧ e'.frozen = e.frozen) := by
  obtain ⟨h1, h2, h3, h4, h5, h6⟩ := G4 hx
  refine ⟨fun n e he' => ?_, fun n e he' => ?_⟩
  · obtain ⟨e', g3, g4⟩ := Sp hcB he'
    rw [h3] at he'
    obtain ⟨g1, g2⟩ := IG.1 he'
    exact ⟨e', g3, h.B n e e' g1 g2 g3 g4⟩
  · obtain ⟨e', g3, g4⟩ := SL hcH he'
    rw [h4] at he'
    obtain ⟨g1, g2⟩ := II.1 he'
    exact ⟨e', g3, h.H n e e' g1 g2 g3 g4⟩
theorem Joined.post {e : Ex} {m : Ms} {live : Nat} {x : Way (std E N)} {S : St0 E N} {σ2 : Nat → Option (Nat × Nat)} (hx : M5 cfg s e m live = .ok x) (h : Since P n0 nt m β σ s a w β' σ' s' a' w')
    (hj : Joined P n0 nt s.st β' σ' s' a' w' x.base x.slots S σ2) : Post P n0 nt s.st (fun n => m.t.testBit n = true) β σ s a w β' σ2 S a' w' := by
  obtain ⟨h1, h2, h3, h4, h5, h6⟩ := G4 hx
  refine ⟨hj.sim, (h.ext.trans hj.ext).weaken (fun n h => h.elim id id), fun n e he hd => ?_, fun n e he hd => ?_, h.defers, h.tmps⟩
  · have := hj.cleanB n e he hd
    have he' : AE x.base.bx n = some e := this
    rw [h3] at he'
    exact (IG.1 he').1
  · have := hj.cleanH n e he hd
    have he' : AE x.base.hp n = some e := this
    rw [h4] at he'
    exact (II.1 he').1
theorem bo {a b : Ex} : gz a b = true ↔ a = b := by
 cases a <;> cases b <;> simp [gz]
theorem Ug {tagged : Bool} {ex : Ex} {c0 : List PV} : ∀ {ws : List (Way (std E N))} {i : Nat}, Iq (O := std E N) tagged ex s' i ws = some c0 →
    ∃ (k : Nat) (x : Way (std E N)), ws[k]? = some x ∧ x.e = ex ∧ (∀ (j : Nat) (y : Way (std E N)), j < k → ws[j]? = some y → y.e ≠ ex) ∧ x.enc (match tagged with | true => some (i + k) | false => none) s' = some c0
  | [], i, h => by cases h
  | x :: ws, i, h => by
    simp only [Iq] at h
    split at h
    · rename_i he
      exact ⟨0, x, rfl, (bo.1 he).symm, fun j y hj => by omega, h⟩
    · rename_i he
      obtain ⟨k, y, h1, h2, h3, h4⟩ := Ug h
      refine ⟨k + 1, y, by simpa using h1, h2, fun j z hj hz => ?_, by rw [show i + (k + 1) = i + 1 + k by omega]; exact h4⟩
      cases j with
      | zero => simp at hz; subst hz; intro e; rw [bo.2 e.symm] at he; cases he
      | succ j => exact h3 j z (by omega) (by simpa using hz)
def jL (tag : Option Nat) (l : List PV) : List PV := match tag with
 | some t => .int t :: l
 | none => l
theorem fT {x : Way (std E N)} {tag : Option Nat} {c0 : List PV} (h : x.enc tag s' = some c0) : NW s' x.base.bx = true ∧ NY s' x.base.hp = true ∧ ∃ ls, C5 (O := std E N) s' (x.base.hp.map (·.1)) [] x.slots = .ok ls ∧
    c0 = jL tag (ls.map Leaf.pv) := by
  unfold Way.enc at h
  split at h
  · rename_i h1 h2
    split at h
    · rename_i ls hl
      refine ⟨h1, h2, ls, hl, ?_⟩
      cases tag with
      | none => exact (Option.some.inj h).symm
      | some t => exact (Option.some.inj h).symm
    · cases h
  · cases h
theorem WS {c0 : List PV} {k : Ex → St0 E N → Option (List PV)} {r : List PV} {x : Way (std E N)} {t : List PV} : ∀ {ws : List (Way (std E N))} {i n : Nat}, KO (O := std E N) c0 k true i ws = some r → c0 = PV.int (i + n : Nat) :: t → ws[n]? = some x → k x.e (x.dec true c0) = some r
 | [], i, n, h, _, hx => by simp at hx
 | [y], i, n, h, hc, hx => by
  cases n with
  | zero => simp at hx; subst hx; exact h
  | succ n => simp at hx
 | y :: z :: ws, i, n, h, hc, hx => by
  have h' : (cond (pvI (AF c0 0) == ((i : Nat) : Int)) (k y.e (y.dec true c0)) (KO (O := std E N) c0 k true (i + 1) (z :: ws))) = some r := h
  have hp : pvI (AF c0 0) = ((i + n : Nat) : Int) := by rw [hc]; rfl
  rw [hp] at h'
  cases n with
  | zero => simp at hx; subst hx; simpa using h'
  | succ n =>
   have : (((i + (n + 1) : Nat) : Int) == ((i : Nat) : Int)) = false := by simp; omega
   rw [this] at h'
   exact WS (i := i + 1) (n := n) h' (by rw [hc]; congr 2; omega) (by simpa using hx)
theorem eR {A : An} {lv : Lv} {ws : List (Way (std E N))} (h : SA cfg s A lv = .ok ws) {k : Nat} {x : Way (std E N)} (hx : ws[k]? = some x) (hfst : ∀ (j : Nat) (y : Way (std E N)), j < k → ws[j]? = some y → y.e ≠ x.e) :
    ∃ m, A.at x.e = some m ∧ M5 cfg s x.e m (lv.of x.e) = .ok x := by
  unfold SA at h
  have hone : ∀ (e : Ex) (o : Option Ms) (l : List (Way (std E N))), Us cfg s lv e o = .ok l →
      (o = none ∧ l = []) ∨ ∃ m y, o = some m ∧ l = [y] ∧ M5 cfg s e m (lv.of e) = .ok y := fun e o l h => by
    cases o with
    | none => cases h; exact .inl ⟨rfl, rfl⟩
    | some m =>
      simp only [Us] at h
      split at h
      · rename_i y hy; cases h; exact .inr ⟨m, y, rfl, rfl, hy⟩
      · cases h
  have hexts : ∀ (l : List (Nat × Ms)) (z : List (Way (std E N))), SC cfg s lv l = .ok z →
      ∀ (k : Nat) (x : Way (std E N)), z[k]? = some x → (∀ (j : Nat) (y : Way (std E N)), j < k → z[j]? = some y → y.e ≠ x.e) → ∃ id m, x.e = .ext id ∧ Ar l id = some m ∧ M5 cfg s x.e m (lv.of x.e) = .ok x := fun l => by
    induction l with
    | nil => intro z h k x hx; simp only [SC] at h; cases h; simp at hx
    | cons p l ih =>
      obtain ⟨id, m⟩ := p
      intro z h k x hx hf
      simp only [SC] at h
      split at h
      · rename_i a b ha hb
        cases h
        rcases hone (.ext id) (some m) a ha with ⟨h1, _⟩ | ⟨m', y, h1, h2, h3⟩
        · cases h1
        · cases h1; subst h2
          have hye := (G4 h3).1
          cases k with
          | zero =>
            simp at hx; subst hx
            exact ⟨id, m, hye, by simp only [Ar, AA.2 rfl], by rw [hye]; exact h3⟩
          | succ k =>
            obtain ⟨id', m', q1, q2, q3⟩ := ih b hb k x (by simpa using hx) (fun j y' hj hy => hf (j + 1) y' (by omega) (by simpa using hy))
            refine ⟨id', m', q1, ?_, q3⟩
            have hne := hf 0 y (by omega) rfl
            rw [hye, q1] at hne
            simp only [Ar]
            rw [BD.2 (fun e => hne (by rw [e]))]
            exact q2
      · cases h
      · cases h
  split at h
  · rename_i x0 y0 z0 hx0 hy0 hz0
    cases h
    rcases hone .nrm A.nrm x0 hx0 with ⟨a1, a2⟩ | ⟨m1, y1, a1, a2, a3⟩ <;> rcases hone .ret A.ret y0 hy0 with ⟨b1, b2⟩ | ⟨m2, y2, b1, b2, b3⟩
    · subst a2; subst b2
      obtain ⟨id, m, q1, q2, q3⟩ := hexts _ _ hz0 k x (by simpa using hx) (fun j y hj hy => hfst j y hj (by simpa using hy))
      exact ⟨m, by rw [q1]; exact q2, q3⟩
    · subst a2; subst b2
      have hye := (G4 b3).1
      cases k with
      | zero => simp at hx; subst hx; exact ⟨m2, by rw [hye]; exact b1, by rw [hye]; exact b3⟩
      | succ k =>
        obtain ⟨id, m, q1, q2, q3⟩ := hexts _ _ hz0 k x (by simpa using hx) (fun j y hj hy => hfst (j + 1) y (by omega) (by simpa using hy))
        exact ⟨m, by rw [q1]; exact q2, q3⟩
    · subst a2; subst b2
      have hye := (G4 a3).1
      cases k with
      | zero => simp at hx; subst hx; exact ⟨m1, by rw [hye]; exact a1, by rw [hye]; exact a3⟩
      | succ k =>
        obtain ⟨id, m, q1, q2, q3⟩ := hexts _ _ hz0 k x (by simpa using hx) (fun j y hj hy => hfst (j + 1) y (by omega) (by simpa using hy))
        exact ⟨m, by rw [q1]; exact q2, q3⟩
    · subst a2; subst b2
      have hye := (G4 a3).1
      have hye2 := (G4 b3).1
      match k with
      | 0 => simp at hx; subst hx; exact ⟨m1, by rw [hye]; exact a1, by rw [hye]; exact a3⟩
      | 1 => simp at hx; subst hx; exact ⟨m2, by rw [hye2]; exact b1, by rw [hye2]; exact b3⟩
      | k + 2 =>
        obtain ⟨id, m, q1, q2, q3⟩ := hexts _ _ hz0 k x (by simpa using hx) (fun j y hj hy => hfst (j + 2) y (by omega) (by simpa using hy))
        exact ⟨m, by rw [q1]; exact q2, q3⟩
  · cases h
  · cases h
  · cases h
theorem NL {pre : List PV} {ls : List Ab} : Holds (pre ++ ls.map Leaf.pv) pre.length ls := fun i l hl => by
 unfold AF
 rw [List.getD_eq_getElem?_getD, List.getElem?_append_right (by omega)]
 rw [show pre.length + i - pre.length = i by omega, List.getElem?_map, hl]; rfl
theorem leave (hs : Sim P n0 nt β σ s a w) (wf : WF s) {A : An} {lv : Lv} {ws : List (Way (std E N))} (hws : SA cfg s A lv = .ok ws) {ex : Ex} {c0 r : List PV} {k : Ex → St0 E N → Option (List PV)} (h1 : Iq (O := std E N) (Nat.blt 1 ws.length) ex s' 0 ws = some c0)
    (h2 : KO (O := std E N) c0 k (Nat.blt 1 ws.length) 0 ws = some r) :
    ∃ m, A.at ex = some m ∧ (Since P n0 nt m β σ s a w β' σ' s' a' w' → ∃ S σ2, k ex S = some r ∧ Post P n0 nt s.st (fun n => m.t.testBit n = true) β σ s a w β' σ2 S a' w' ∧ WF S ∧ s.st ≤ S.st) := by
  obtain ⟨i, x, g1, g2, g3, g4⟩ := Ug h1
  subst g2
  obtain ⟨m, q1, q2⟩ := eR hws g1 g3
  refine ⟨m, q1, fun hsince => ?_⟩
  cases ht : Nat.blt 1 ws.length with
  | true =>
    rw [ht] at h2 g4
    obtain ⟨e1, e2, ls, e3, e4⟩ := fT g4
    have e4 : c0 = PV.int ((0 + i : Nat) : Int) :: ls.map Leaf.pv := e4
    have hk := WS h2 e4 g1
    obtain ⟨σ2, hj⟩ := W8 hs wf q2 hsince (hsince.kept q2 e1 e2).1 (hsince.kept q2 e1 e2).2 e3 (cv := c0) (j := 1) (by rw [e4]; exact NL (pre := [PV.int ((0 + i : Nat) : Int)]))
    exact ⟨_, σ2, hk, hj.post q2 hsince, hj.wf, hj.st⟩
  | false =>
    rw [ht] at h2 g4
    obtain ⟨e1, e2, ls, e3, e4⟩ := fT g4
    have e4 : c0 = ls.map Leaf.pv := e4
    have hlen : ws.length ≤ 1 := by
      rcases Nat.lt_or_ge 1 ws.length with h | h
      · rw [BL.2 h] at ht; cases ht
      · exact h
    have hi := (List.getElem?_eq_some_iff.1 g1).1
    obtain ⟨y, rfl⟩ : ∃ y, ws = [y] := by
      match ws, hlen, hi with
      | [y], _, _ => exact ⟨y, rfl⟩
    have : i = 0 := by simp at hi; exact hi
    subst this
    simp at g1; subst g1
    have hk : k y.e (y.dec false c0) = some r := h2
    obtain ⟨σ2, hj⟩ := W8 hs wf q2 hsince (hsince.kept q2 e1 e2).1 (hsince.kept q2 e1 e2).2 e3 (cv := c0) (j := 0) (by rw [e4]; exact NL (pre := []))
    exact ⟨_, σ2, hk, hj.post q2 hsince, hj.wf, hj.st⟩
end
end Go.Px
end
