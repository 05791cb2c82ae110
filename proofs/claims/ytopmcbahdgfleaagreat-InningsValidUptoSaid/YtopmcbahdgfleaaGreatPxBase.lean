/-
Px: laws of the executor's maps, of its monad of reads, and of operands.
-/
import Derived.Test.YtopmcbahdgfleaaGreatPxSem
namespace Go.Px
set_option linter.unusedVariables false
set_option linter.unusedSimpArgs false

theorem natBeq_iff {a b : Nat} : Nat.beq a b = true ↔ a = b := by
  constructor
  · exact Nat.eq_of_beq_eq_true
  · rintro rfl; exact Nat.beq_refl a

theorem natBeq_false {a b : Nat} : Nat.beq a b = false ↔ a ≠ b := by
  rw [← Bool.not_eq_true, natBeq_iff]

theorem natBlt_iff {a b : Nat} : Nat.blt a b = true ↔ a < b := by
  unfold Nat.blt; rw [Nat.ble_eq]; omega

/-! ### Maps -/

theorem TM.get_set {α : Type} : ∀ (d : Nat) (t : TM α) (k j : Nat) (v : Option α), k < 2 ^ d → j < 2 ^ d →
    TM.get d (TM.set d t k v) j = if j = k then v else TM.get d t j
  | 0, t, k, j, v, hk, hj => by
    have h1 : k = 0 := by omega
    have h2 : j = 0 := by omega
    subst h1; subst h2
    cases v <;> simp [TM.set, TM.get]
  | d + 1, t, k, j, v, hk, hj => by
    have hk2 : k / 2 < 2 ^ d := by rw [Nat.pow_succ] at hk; omega
    have hj2 : j / 2 < 2 ^ d := by rw [Nat.pow_succ] at hj; omega
    have ih := fun t => TM.get_set d t (k / 2) (j / 2) v hk2 hj2
    have hget : TM.get (d + 1) t j = match Nat.beq (j % 2) 0 with
        | true => TM.get d t.kids.1 (j / 2)
        | false => TM.get d t.kids.2 (j / 2) := by
      cases t with
      | node l r => rfl
      | e => cases d <;> simp [TM.get, TM.kids] <;> split <;> rfl
      | leaf a => cases d <;> simp [TM.get, TM.kids] <;> split <;> rfl
    rw [hget]
    simp only [TM.set]
    rcases hb : Nat.beq (k % 2) 0 with _ | _ <;> rcases hc : Nat.beq (j % 2) 0 with _ | _
    all_goals simp only [TM.get, hc, ih]
    all_goals first
      | (have e1 := natBeq_iff.1 hb; have e2 := natBeq_false.1 hc; have : j ≠ k := by intro h; subst h; omega
         rw [if_neg this])
      | (have e1 := natBeq_false.1 hb; have e2 := natBeq_iff.1 hc; have : j ≠ k := by intro h; subst h; omega
         rw [if_neg this])
      | (by_cases hjk : j = k
         · subst hjk; simp
         · have e1 : j / 2 ≠ k / 2 := by
             intro h
             have x1 := hb; have x2 := hc
             first
               | (have := natBeq_iff.1 x1; have := natBeq_iff.1 x2; omega)
               | (have := natBeq_false.1 x1; have := natBeq_false.1 x2; omega)
           rw [if_neg e1, if_neg hjk])

theorem getTM_setTM {α : Type} (t : TM α) (k j : Nat) (v : Option α) :
    getTM (setTM t k v) j = if j = k ∧ k < tmMax then v else getTM t j := by
  unfold setTM getTM
  rcases h1 : Nat.blt j tmMax with _ | _
  · have : ¬ (j = k ∧ k < tmMax) := by
      rintro ⟨rfl, h⟩; rw [← natBlt_iff, h1] at h; exact Bool.noConfusion h
    rw [if_neg this]
  · rcases h2 : Nat.blt k tmMax with _ | _
    · have : ¬ (j = k ∧ k < tmMax) := by
        rintro ⟨rfl, h⟩; rw [h1] at h2; exact Bool.noConfusion h2
      rw [if_neg this]
    · have hk := natBlt_iff.1 h2
      have hj := natBlt_iff.1 h1
      simp only []
      rw [TM.get_set tmDepth t k j v (by simpa [tmMax, tmDepth] using hk) (by simpa [tmMax, tmDepth] using hj)]
      simp [hk]

theorem TM.get_purge {O : Alg} : ∀ (d : Nat) (t : TM (TV O)) (k : Nat), TM.get d (purge t) k = (TM.get d t k).bind fun tv => match tv.gs with
    | [] => some tv
    | _ => none
  | 0, .leaf a, k => by
    simp only [purge]
    cases h : a.gs <;> simp [TM.get, h]
  | 0, .e, k => rfl
  | 0, .node l r, k => rfl
  | d + 1, .leaf a, k => by
    simp only [purge]
    cases h : a.gs <;> simp [TM.get]
  | d + 1, .e, k => rfl
  | d + 1, .node l r, k => by
    simp only [purge, TM.get]
    split <;> exact TM.get_purge d _ _

theorem getTM_purge {O : Alg} (t : TM (TV O)) (k : Nat) : getTM (purge t) k = (getTM t k).bind fun tv => match tv.gs with
    | [] => some tv
    | _ => none := by
  unfold getTM
  split
  · exact TM.get_purge _ _ _
  · rfl

theorem TM.get_e {α : Type} (d k : Nat) : TM.get d (TM.e : TM α) k = none := by cases d <;> rfl

theorem getTM_e {α : Type} (k : Nat) : getTM (TM.e : TM α) k = none := by
  unfold getTM; split
  · exact TM.get_e _ _
  · rfl

theorem alGet_alDel {α : Type} : ∀ (l : List (Nat × α)) (k j : Nat), alGet (alDel l k) j = if j = k then none else alGet l j
  | [], k, j => by simp [alDel, alGet]
  | (i, a) :: l, k, j => by
    have ih := alGet_alDel l k j
    simp only [alDel]
    rcases h : Nat.beq i k with _ | _
    · have hik := natBeq_false.1 h
      simp only [alGet]
      rcases h2 : Nat.beq i j with _ | _
      · exact ih
      · have := natBeq_iff.1 h2
        rw [if_neg (by omega)]
    · have hik := natBeq_iff.1 h
      simp only [alGet, ih]
      by_cases hjk : j = k
      · rw [if_pos hjk, if_pos hjk]
      · rw [if_neg hjk, if_neg hjk, natBeq_false.2 (by omega)]

theorem alGet_alSet {α : Type} (l : List (Nat × α)) (k j : Nat) (v : Option α) : alGet (alSet l k v) j = if j = k then v else alGet l j := by
  cases v with
  | none => simp only [alSet]; exact alGet_alDel l k j
  | some a =>
    simp only [alSet, alGet]
    rcases h : Nat.beq k j with _ | _
    · have := natBeq_false.1 h
      rw [alGet_alDel, if_neg (by omega), if_neg (by omega)]
    · have := natBeq_iff.1 h
      rw [if_pos this.symm]

theorem alGet_filter {α : Type} (p : Nat → Bool) : ∀ (l : List (Nat × α)) (k : Nat), alGet (l.filter fun x => p x.1) k = if p k then alGet l k else none
  | [], k => by simp [alGet]
  | (i, a) :: l, k => by
    have ih := alGet_filter p l k
    simp only [List.filter_cons]
    rcases hp : p i with _ | _
    · simp only [Bool.false_eq_true, if_false, ih, alGet]
      rcases h : Nat.beq i k with _ | _
      · rfl
      · have := natBeq_iff.1 h; subst this; simp [hp]
    · simp only [if_true, alGet]
      rcases h : Nat.beq i k with _ | _
      · exact ih
      · have := natBeq_iff.1 h; subst this; simp [hp]

theorem alGet_map {α β : Type} (f : α → β) : ∀ (l : List (Nat × α)) (k : Nat), alGet (l.map fun (n, a) => (n, f a)) k = (alGet l k).map f
  | [], k => rfl
  | (i, a) :: l, k => by
    have ih := alGet_map f l k
    simp only [List.map_cons, alGet]
    rcases h : Nat.beq i k with _ | _
    · exact ih
    · rfl

theorem alGet_append {α : Type} : ∀ (l r : List (Nat × α)) (k : Nat), alGet (l ++ r) k = match alGet l k with
    | some a => some a
    | none => alGet r k
  | [], r, k => rfl
  | (i, a) :: l, r, k => by
    have ih := alGet_append l r k
    simp only [List.cons_append, alGet]
    rcases h : Nat.beq i k with _ | _
    · exact ih
    · rfl

theorem alGet_mem {α : Type} : ∀ {l : List (Nat × α)} {k : Nat} {a : α}, alGet l k = some a → (k, a) ∈ l
  | (i, b) :: l, k, a, h => by
    simp only [alGet] at h
    rcases hb : Nat.beq i k with _ | _
    · rw [hb] at h; exact List.mem_cons_of_mem _ (alGet_mem h)
    · rw [hb] at h
      have := natBeq_iff.1 hb; subst this
      cases h; exact List.mem_cons_self
  | [], k, a, h => by simp [alGet] at h

theorem memN_iff {n : Nat} : ∀ {l : List Nat}, memN n l = true ↔ n ∈ l
  | [] => by simp [memN]
  | m :: l => by
    simp only [memN]
    rcases h : Nat.beq n m with _ | _
    · rw [memN_iff, List.mem_cons]; have := natBeq_false.1 h; simp [this]
    · have := natBeq_iff.1 h; simp [this]

theorem natListEq_iff : ∀ {a b : List Nat}, natListEq a b = true ↔ a = b
  | [], [] => by simp [natListEq]
  | a :: l, b :: r => by
    simp only [natListEq]
    rcases h : Nat.beq a b with _ | _
    · have := natBeq_false.1 h; simp [this]
    · have := natBeq_iff.1 h; simp [this, natListEq_iff]
  | [], _ :: _ => by simp [natListEq]
  | _ :: _, [] => by simp [natListEq]

theorem ikEq_iff {a b : IntKind} : ikEq a b = true ↔ a = b := by cases a <;> cases b <;> simp [ikEq]

/-- The last word on a key. -/
theorem alGet_applyA {α : Type} : ∀ (ws : List (Nat × Option α)) (l : List (Nat × α)) (k : Nat), (∀ x ∈ ws, x.1 ≠ k) → alGet (applyA l ws) k = alGet l k
  | [], l, k, h => rfl
  | (n, v) :: r, l, k, h => by
    simp only [applyA]
    rw [alGet_applyA r _ k (fun x hx => h x (List.mem_cons_of_mem _ hx)), alGet_alSet, if_neg]
    have := h (n, v) List.mem_cons_self
    exact fun e => this e.symm

theorem applyA_append {α : Type} : ∀ (a b : List (Nat × Option α)) (l : List (Nat × α)), applyA l (a ++ b) = applyA (applyA l a) b
  | [], b, l => rfl
  | (n, v) :: r, b, l => by simp only [List.cons_append, applyA]; exact applyA_append r b _

/-! ### The monad of reads -/

section
variable {O : Alg} {α β : Type} {s : State O}

theorem RM.run_bind (x : RM O α) (f : α → RM O β) : ∀ (m : Nat), RM.run s (x.bind f) m = match RM.run s x m with
    | .ok (a, m') => RM.run s (f a) m'
    | .error e => .error e := by
  induction x with
  | ret a => intro m; rfl
  | fail w => intro m; rfl
  | t n g ih => intro m; simp only [RM.bind, RM.run]; exact ih _ _
  | b n g ih => intro m; simp only [RM.bind, RM.run]; exact ih _ _
  | h n g ih => intro m; simp only [RM.bind, RM.run]; exact ih _ _

theorem RM.bind_ok {x : RM O α} {f : α → RM O β} {m m' : Nat} {b : β} (h : RM.run s (x.bind f) m = .ok (b, m')) :
    ∃ a m1, RM.run s x m = .ok (a, m1) ∧ RM.run s (f a) m1 = .ok (b, m') := by
  rw [RM.run_bind] at h
  cases hx : RM.run s x m with
  | error e => rw [hx] at h; cases h
  | ok p => obtain ⟨a, m1⟩ := p; rw [hx] at h; exact ⟨a, m1, rfl, h⟩

theorem RM.ret_ok {a b : α} {m m' : Nat} (h : RM.run s (RM.ret a : RM O α) m = .ok (b, m')) : a = b := by
  simp only [RM.run, Except.ok.injEq, Prod.mk.injEq] at h; exact h.1

theorem RM.fail_ok {w : String} {b : α} {m m' : Nat} (h : RM.run s (RM.fail w : RM O α) m = .ok (b, m')) : False := by
  simp [RM.run] at h

theorem RM.guard_ok {b : Bool} {w : String} {u : Unit} {m m' : Nat} (h : RM.run s (RM.guard b w) m = .ok (u, m')) : b = true := by
  cases b
  · exact (RM.fail_ok h).elim
  · rfl

theorem RM.ofOpt_ok {x : Option α} {w : String} {a : α} {m m' : Nat} (h : RM.run s (RM.ofOpt w x) m = .ok (a, m')) : x = some a := by
  cases x with
  | none => exact (RM.fail_ok h).elim
  | some b => exact congrArg some (RM.ret_ok h)

theorem RM.t_ok {n : Nat} {f : Option (TV O) → RM O α} {a : α} {m m' : Nat} (h : RM.run s (RM.t n f) m = .ok (a, m')) : ∃ m1, RM.run s (f (s.getT n)) m1 = .ok (a, m') :=
  ⟨_, h⟩
theorem RM.b_ok {n : Nat} {f : Option (BEnt O) → RM O α} {a : α} {m m' : Nat} (h : RM.run s (RM.b n f) m = .ok (a, m')) : ∃ m1, RM.run s (f (s.getB n)) m1 = .ok (a, m') :=
  ⟨_, h⟩
theorem RM.h_ok {n : Nat} {f : Option (HEnt O) → RM O α} {a : α} {m m' : Nat} (h : RM.run s (RM.h n f) m = .ok (a, m')) : ∃ m1, RM.run s (f (s.getH n)) m1 = .ok (a, m') :=
  ⟨_, h⟩
end

/-! ### What the state holds behind writes -/

section
variable {O : Alg} (s : State O)

theorem State.getT_apply1 (d : Nat) (v : Option (TV O)) (w : Wr O) (hw : w.ts = [(d, v)]) (n : Nat) :
    (s.apply w).getT n = if n = d ∧ d < tmMax then v else s.getT n := by
  unfold State.apply State.getT
  rw [hw]
  simp only [State.applyT]
  exact getTM_setTM _ _ _ _

theorem State.getT_apply0 (w : Wr O) (hw : w.ts = []) (n : Nat) : (s.apply w).getT n = s.getT n := by
  unfold State.apply State.getT; rw [hw]; rfl

theorem State.getB_apply0 (w : Wr O) (hw : w.bs = []) (n : Nat) : (s.apply w).getB n = s.getB n := by
  unfold State.apply State.getB; rw [hw]; rfl

theorem State.getB_apply1 (b : Nat) (v : Option (BEnt O)) (w : Wr O) (hw : w.bs = [(b, v)]) (n : Nat) :
    (s.apply w).getB n = if n = b then v else s.getB n := by
  unfold State.apply State.getB; rw [hw]; exact alGet_alSet _ _ _ _

theorem State.getH_apply0 (w : Wr O) (hw : w.hs = []) (n : Nat) : (s.apply w).getH n = s.getH n := by
  unfold State.apply State.getH; rw [hw]; rfl

end

/-! ### Operands -/

section
variable {E : Env} {N : Nat} {P : Program} {n0 : Nz} {nt : Nat} {β : Nat → Option Nat} {σ : Nat → Option (Nat × Nat)} {s : St0 E N} {a : Act} {w : World}

theorem gsIn_mem : ∀ {gs ctx : List (Nat × Bool)}, gsIn gs ctx = true → ∀ x ∈ gs, x ∈ ctx
  | [], _, _, x, hx => by simp at hx
  | (n, b) :: r, ctx, h, x, hx => by
    simp only [gsIn] at h
    split at h
    · rename_i hany
      rcases List.mem_cons.1 hx with rfl | hx
      · rw [List.any_eq_true] at hany
        obtain ⟨⟨m, c⟩, hm, he⟩ := hany
        simp only [Bool.and_eq_true, beq_iff_eq] at he
        have := natBeq_iff.1 he.1
        rw [this, he.2]; exact hm
      · exact gsIn_mem h x hx
    · cases h

theorem Facts.of_in {gs ctx : List (Nat × Bool)} (h : gsIn gs ctx = true) (hf : Facts a ctx) : Facts a gs :=
  fun n b hm => hf n b (gsIn_mem h _ hm)

theorem constC_rel {t : TypeId} {v : Value} {c : AC0 E N} (h : constC P t v = some c) : RelC P n0 β σ s w c v ∧ c.names = [] ∧ v.oneCell' = true := by
  unfold constC at h
  split at h
  · rename_i k k' n hk
    split at h
    · rename_i hkk
      cases h
      exact ⟨by simp only [RelC]; rw [ikEq_iff.1 hkk], rfl, rfl⟩
    · cases h
  · rename_i b hk; cases h; cases b <;> exact ⟨rfl, rfl, rfl⟩
  · rename_i x hk; cases h; exact ⟨rfl, rfl, rfl⟩
  · rename_i e hk
    split at h
    · rename_i ts hts; cases h; exact ⟨⟨t, ts, hk, hts, none, rfl⟩, rfl, rfl⟩
    · cases h
  · cases h; exact ⟨rfl, rfl, rfl⟩
  · cases h

theorem constCs_rel : ∀ {ts : List TypeId} {vs : List Value} {cs : List (AC0 E N)}, constCs P ts vs = some cs → RelCs P n0 β σ s w cs vs ∧ namesCs cs = [] ∧ cs.length = ts.length ∧ ∀ v ∈ vs, v.oneCell' = true
  | [], [], cs, h => by cases h; exact ⟨trivial, rfl, rfl, by simp⟩
  | t :: ts, v :: vs, cs, h => by
    simp only [constCs] at h
    split at h
    · rename_i c r hc hr
      cases h
      obtain ⟨r1, n1, o1⟩ := constC_rel (n0 := n0) (β := β) (σ := σ) (s := s) (w := w) hc
      obtain ⟨r2, n2, l2, o2⟩ := constCs_rel hr
      exact ⟨⟨r1, r2⟩, by simp [namesCs, n1, n2], by simp [l2], fun x hx => (List.mem_cons.1 hx).elim (fun e => e ▸ o1) (o2 x)⟩
    · cases h
  | [], _ :: _, _, h => by simp [constCs] at h
  | _ :: _, [], _, h => by simp [constCs] at h

theorem constV_rel {t : TypeId} {v : Value} {x : Val (std E N)} (h : constV P t v = some x) :
    RelVal P n0 β σ s w x v ∧ namesCs x.cs = [] ∧ ∀ u ∈ v.cells.toList, u.oneCell' = true := by
  unfold constV at h
  split at h
  · rename_i cs
    split at h
    · rename_i ts hts
      split at h
      · rename_i l hl
        cases h
        obtain ⟨r, n, _, o⟩ := constCs_rel (n0 := n0) (β := β) (σ := σ) (s := s) (w := w) hl
        exact ⟨⟨r, cs, rfl⟩, n, o⟩
      · cases h
    · cases h
  · rename_i hna
    split at h
    · rename_i c hc
      cases h
      obtain ⟨r, n, o⟩ := constC_rel (n0 := n0) (β := β) (σ := σ) (s := s) (w := w) hc
      have hcells : v.cells = #[v] := by cases v <;> first | rfl | (exact (hna _ rfl).elim)
      exact ⟨⟨by rw [hcells]; exact ⟨r, trivial⟩, o⟩, by simp [namesCs, n], by rw [hcells]; simpa using o⟩
    · cases h

theorem Fresh.av {n : Nat} (hf : Fresh a s n) {k : Nat} {tv : TV (std E N)} (h : s.getT k = some tv) (hg : Facts a tv.gs) : n ∉ tv.v.names := hf.t k tv h hg

theorem ev_ok {ctx : List (Nat × Bool)} {T : TypeId} {x : Operand} {v : AV (std E N)} {m m' : Nat} (hs : Sim P n0 nt β σ s a w) (hf : Facts a ctx)
    (h : RM.run s (ev P ctx T x) m = .ok (v, m')) : RelAV P n0 β σ s w v (a.eval x) ∧ ∀ n, Fresh a s n → n ∉ v.names := by
  cases x with
  | tmp k =>
    obtain ⟨m1, h⟩ := RM.t_ok h
    cases hg : s.getT k with
    | none => rw [hg] at h; exact (RM.fail_ok h).elim
    | some tv =>
      rw [hg] at h
      simp only at h
      split at h
      · rename_i hin
        cases RM.ret_ok h
        refine ⟨?_, fun n hn => hn.t k tv hg (hf.of_in hin)⟩
        rcases hs.T k tv hg with ⟨_, hr⟩ | ⟨hnf, _⟩
        · exact hr
        · exact (hnf (hf.of_in hin)).elim
      · exact (RM.fail_ok h).elim
  | const c =>
    simp only [ev] at h
    cases hx : constV (O := std E N) P T c with
    | some x =>
      rw [hx] at h
      cases RM.ret_ok h
      obtain ⟨r, n, _⟩ := constV_rel (n0 := n0) (β := β) (σ := σ) (s := s) (w := w) hx
      exact ⟨r, fun k _ => by simp [AV.names, n]⟩
    | none => rw [hx] at h; exact (RM.fail_ok h).elim
  | func f =>
    unfold ev at h
    cases RM.ret_ok h
    exact ⟨⟨⟨⟨[], rfl, rfl, by simp⟩, trivial⟩, rfl⟩, fun k _ => by simp [AV.names, one, namesCs, AC.names]⟩
  | global g => exact (RM.fail_ok h).elim

theorem evV_ok {ctx : List (Nat × Bool)} {T : TypeId} {x : Operand} {v : Val (std E N)} {m m' : Nat} (hs : Sim P n0 nt β σ s a w) (hf : Facts a ctx)
    (h : RM.run s (evV P ctx T x) m = .ok (v, m')) : RelVal P n0 β σ s w v (a.eval x) ∧ ∀ n, Fresh a s n → n ∉ namesCs v.cs := by
  obtain ⟨y, m1, h1, h2⟩ := RM.bind_ok h
  obtain ⟨r, n⟩ := ev_ok hs hf h1
  cases y with
  | val u => cases RM.ret_ok h2; exact ⟨r, n⟩
  | tup us => exact (RM.fail_ok h2).elim

theorem cells_one {v : Value} (h : v.oneCell' = true) : v.cells = #[v] := by cases v <;> first | rfl | (simp [Value.oneCell'] at h)

theorem evC_ok {ctx : List (Nat × Bool)} {T : TypeId} {x : Operand} {c : AC0 E N} {m m' : Nat} (hs : Sim P n0 nt β σ s a w) (hf : Facts a ctx)
    (h : RM.run s (evC P ctx T x) m = .ok (c, m')) : RelC P n0 β σ s w c (a.eval x) ∧ (a.eval x).oneCell' = true ∧ ∀ n, Fresh a s n → n ∉ c.names := by
  obtain ⟨y, m1, h1, h2⟩ := RM.bind_ok h
  obtain ⟨r, n⟩ := evV_ok hs hf h1
  obtain ⟨ag, cs⟩ := y
  split at h2
  · rename_i c1 hag hcs
    simp only at hag hcs
    subst hag; subst hcs
    cases RM.ret_ok h2
    obtain ⟨r1, r2⟩ := r
    simp only at r2
    rw [cells_one r2] at r1
    exact ⟨r1.1, r2, fun k hk => by have := n k hk; simpa [namesCs] using this⟩
  · exact (RM.fail_ok h2).elim

theorem RelC.one {c : AC0 E N} {v : Value} (h : RelC P n0 β σ s w c v) : v.oneCell' = true := by
  cases c with
  | int k i => have h' : v = _ := h; subst h'; rfl
  | bool b => have h' : v = _ := h; subst h'; rfl
  | str x => have h' : v = _ := h; subst h'; rfl
  | nil e => obtain ⟨_, _, _, _, x, rfl⟩ := h; rfl
  | imm e nw l => obtain ⟨t, ht, hr⟩ := h; cases hr; rfl
  | own e id => obtain ⟨⟨x, y, z, rfl⟩, _⟩ := h; rfl
  | ptr b off => obtain ⟨blk, rfl, _⟩ := h; rfl
  | aptr b off n sz i inner => obtain ⟨_, _, blk, rfl, _⟩ := h; rfl
  | eptr id i off => obtain ⟨_, blk, o, rfl, _⟩ := h; rfl
  | iptr e nw l i off => obtain ⟨_, _, _, _, _, _, _, _, _, _, _, rfl⟩ := h; rfl
  | fn f caps => obtain ⟨vs, rfl, _⟩ := h; rfl
  | nilptr => have h' : v = _ := h; subst h'; rfl

theorem RelCs.one : ∀ {cs : List (AC0 E N)} {vs : List Value}, RelCs P n0 β σ s w cs vs → ∀ v ∈ vs, v.oneCell' = true
  | [], [], _, v, hv => by simp at hv
  | c :: cs, x :: vs, h, v, hv => by
    rcases List.mem_cons.1 hv with rfl | hv
    · exact RelC.one h.1
    · exact RelCs.one h.2 v hv
  | [], _ :: _, h, _, _ => h.elim
  | _ :: _, [], h, _, _ => h.elim

theorem RelCs.length : ∀ {cs : List (AC0 E N)} {vs : List Value}, RelCs P n0 β σ s w cs vs → cs.length = vs.length
  | [], [], _ => rfl
  | c :: cs, x :: vs, h => by simp [RelCs.length h.2]
  | [], _ :: _, h => h.elim
  | _ :: _, [], h => h.elim

theorem RelCs.get : ∀ {cs : List (AC0 E N)} {vs : List Value}, RelCs P n0 β σ s w cs vs → ∀ (i : Nat) (c : AC0 E N) (v : Value), cs[i]? = some c → vs[i]? = some v → RelC P n0 β σ s w c v
  | c :: cs, x :: vs, h, 0, c', v, hc, hv => by simp at hc hv; subst hc; subst hv; exact h.1
  | c :: cs, x :: vs, h, i + 1, c', v, hc, hv => RelCs.get h.2 i c' v (by simpa using hc) (by simpa using hv)
  | [], _, _, i, c', v, hc, _ => by simp at hc
  | _ :: _, [], h, _, _, _, _, _ => h.elim

theorem evI_ok {ctx : List (Nat × Bool)} {x : Operand} {i : Int} {m m' : Nat} (hs : Sim P n0 nt β σ s a w) (hf : Facts a ctx)
    (h : RM.run s (evI (O := std E N) ctx x) m = .ok (i, m')) : ∃ k, a.eval x = .int k i := by
  cases x with
  | tmp k =>
    obtain ⟨m1, h⟩ := RM.t_ok h
    cases hg : s.getT k with
    | none => rw [hg] at h; exact (RM.fail_ok h).elim
    | some tv =>
      rw [hg] at h
      simp only at h
      split at h
      · rename_i k' i' hin hv
        cases RM.ret_ok h
        rcases hs.T k tv hg with ⟨_, hr⟩ | ⟨hnf, _⟩
        · rw [hv] at hr
          obtain ⟨r1, r2⟩ := hr
          simp only at r2
          rw [cells_one r2] at r1
          exact ⟨k', r1.1⟩
        · exact (hnf (hf.of_in hin)).elim
      · exact (RM.fail_ok h).elim
  | const c =>
    unfold evI at h
    split at h
    · rename_i k n hc; cases hc; cases RM.ret_ok h; exact ⟨_, rfl⟩
    · rename_i hx; cases hx
    · exact (RM.fail_ok h).elim
  | func f => exact (RM.fail_ok h).elim
  | global g => exact (RM.fail_ok h).elim

/-- The guards' term is true where the guards hold. -/
theorem guardB_ok : ∀ {gs : List (Nat × Bool)} {g : Option Bool} {m m' : Nat}, Sim P n0 nt β σ s a w → Facts a gs →
    RM.run s (guardB (O := std E N) gs) m = .ok (g, m') → ∀ b, g = some b → b = true
  | [], g, m, m', hs, hf, h, b, hb => by cases RM.ret_ok h; cases hb
  | (n, want) :: r, g, m, m', hs, hf, h, b, hb => by
    obtain ⟨m1, h⟩ := RM.t_ok h
    cases hg : s.getT n with
    | none => rw [hg] at h; exact (RM.fail_ok h).elim
    | some tv =>
      rw [hg] at h
      simp only at h
      split at h
      · rename_i gs' b' heq
        cases heq
        obtain ⟨g1, m2, h1, h2⟩ := RM.bind_ok h
        have ih := guardB_ok hs (fun n b hm => hf n b (List.mem_cons_of_mem _ hm)) h1
        have hn : a.tmps.getD n undef = .bool want := hf n want List.mem_cons_self
        have hb' : b' = want := by
          rcases hs.T n _ hg with ⟨_, hr⟩ | ⟨_, hu⟩
          · obtain ⟨r1, r2⟩ := hr
            simp only at r2
            rw [cells_one r2] at r1
            have e : a.tmps.getD n undef = .bool b' := r1.1
            rw [hn] at e
            cases e; rfl
          · rw [hu] at hn; cases hn
        have e2 := RM.ret_ok h2
        rw [hb] at e2
        subst hb'
        cases b' <;> cases g1 <;> simp_all
      · exact (RM.fail_ok h).elim

end
end Go.Px
