/-
Px: one operation of a region.
-/
import Derived.Test.YtopmcbahdgfleaaGreatPxCall3
namespace Go.Px
set_option linter.unusedVariables false
set_option linter.unusedSimpArgs false

section
variable {E : Env} {N : Nat} {P : Program} {n0 n0' : Nz} {nt : Nat} {β β' : Nat → Option Nat} {σ σ' : Nat → Option (Nat × Nat)} {s s' : St0 E N} {a : Act} {w w' : World}

/-- The guards that the temporaries wear. -/
def GI (s : St0 E N) (done : List Nat) : Prop := ∀ n tv, s.getT n = some tv → ∀ g ∈ tv.gs, g.1 ∈ done

/-- What is so after an operation. -/
def After (P : Program) (n0 : Nz) (nt : Nat) (new : Nat → Prop) (β : Nat → Option Nat) (σ : Nat → Option (Nat × Nat)) (s : St0 E N) (a : Act) (w : World) (dst : Option Nat) (wr : Wr (std E N)) (a' : Act) (w' : World) : Prop :=
  ∃ β' σ', Sim P n0 nt β' σ' (s.apply wr) a' w' ∧ Ext P new β σ s w β' σ' (s.apply wr) w' ∧ (∀ n, Fresh a s n → ¬ new n → Fresh a' (s.apply wr) n) ∧
    (∀ n e, (s.apply wr).getB n = some e → e.dirty = false → s.getB n = some e) ∧ (∀ n e, (s.apply wr).getH n = some e → e.dirty = false → s.getH n = some e) ∧
    a'.defers = a.defers ∧ ∀ n, dst ≠ some n → a'.tmps.getD n undef = a.tmps.getD n undef

theorem getD_put_ne {a : Act} {d n : Nat} {v : Value} (h : n ≠ d) : (a.put (some d) v).tmps.getD n undef = a.tmps.getD n undef := by
  simp only [Act.put]
  rw [Array.getD_eq_getD_getElem?, Array.getD_eq_getD_getElem?, Array.getElem?_setIfInBounds]
  rw [if_neg (fun e => h e.symm)]

theorem getD_put_same {a : Act} {d : Nat} {v : Value} (h : d < a.tmps.size) : (a.put (some d) v).tmps.getD d undef = v := by
  simp only [Act.put]
  rw [Array.getD_eq_getD_getElem?, Array.getElem?_setIfInBounds]
  simp [h]

theorem facts_put {a : Act} {d : Nat} {v : Value} {gs : List (Nat × Bool)} (h : ∀ g ∈ gs, g.1 ≠ d) : Facts (a.put (some d) v) gs ↔ Facts a gs := by
  constructor
  · intro hf n b hm; rw [← hf n b hm, getD_put_ne (h _ hm)]
  · intro hf n b hm; rw [getD_put_ne (h _ hm)]; exact hf n b hm

theorem getT_big {n : Nat} (h : ¬ n < tmMax) : s.getT n = none := by
  unfold State.getT getTM
  cases hb : Nat.blt n tmMax with
  | false => rfl
  | true => exact (h (natBlt_iff.1 hb)).elim

theorem after_put (hs : Sim P n0 nt β σ s a w) {done : List Nat} (gi : GI s done) {d : Nat} (hd : d ∉ done) (hdn : d < nt) {new : Nat → Prop} (hnew : ∀ n, new n → Fresh a s n)
    {ctx : List (Nat × Bool)} (hctx : ∀ g ∈ ctx, g.1 ∈ done) {av : AV (std E N)} {bs : List (Nat × Option (BEnt (std E N)))} {hh : List (Nat × Option (HEnt (std E N)))} {z : Value}
    (m : Mem P n0 β' σ' (s.apply { bs := bs, hs := hh }) w') (x : Ext P new β σ s w β' σ' (s.apply { bs := bs, hs := hh }) w') (t : Tidy a new s (s.apply { bs := bs, hs := hh }))
    (hz : (Facts a ctx ∧ RelAV P n0 β' σ' (s.apply { bs := bs, hs := hh }) w' av z ∧ ∀ n, Fresh a s n → ¬ new n → n ∉ av.names) ∨ (¬ Facts a ctx ∧ z = undef)) :
    After P n0 nt new β σ s a w (some d) { ts := [(d, some ⟨ctx, av⟩)], bs := bs, hs := hh } (a.put (some d) z) w' := by
  let wr : Wr (std E N) := { ts := [(d, some ⟨ctx, av⟩)], bs := bs, hs := hh }
  have gT := fun n => State.getT_apply1 s d (some ⟨ctx, av⟩) wr rfl n
  have sub : Sub (s.apply { bs := bs, hs := hh }) (s.apply wr) := Sub.of_same (fun _ => rfl) (fun _ => rfl)
  have x2 := (x.trans (sub.ext P (fun _ => False) β' σ' w')).weaken (fun n (h : new n ∨ False) => h.elim (fun h => h) (fun h => h.elim))
  have ne : ∀ {g : Nat × Bool}, g.1 ∈ done → g.1 ≠ d := fun hg e => hd (e ▸ hg)
  have hsz : (a.put (some d) z).tmps.size = nt := by simp [Act.put, hs.size]
  refine ⟨β', σ', ⟨Nat.le_trans hs.n0le x.size, hsz, fun n tv hn => ?_, sub.mem m⟩, x2, fun n hf hn => ⟨fun k tv hk hg => ?_, fun k e he => (t.fresh n hf hn).b k e he, fun k e he => (t.fresh n hf hn).h k e he⟩, t.cleanB, t.cleanH, rfl, fun n hn => getD_put_ne (fun e => hn (by rw [e]))⟩
  · rw [gT] at hn
    split at hn
    · rename_i he
      cases hn
      rw [he.1, getD_put_same (by rw [hs.size]; exact hdn)]
      rcases hz with ⟨h1, h2, _⟩ | ⟨h1, h2⟩
      · exact .inl ⟨(facts_put (fun g hg => ne (hctx g hg))).2 h1, (sub.ext P (fun _ => False) β' σ' w').relAV (fun _ _ h => h) h2⟩
      · exact .inr ⟨fun h => h1 ((facts_put (fun g hg => ne (hctx g hg))).1 h), h2⟩
    · rename_i he
      have hnd : n ≠ d := fun e => by
        by_cases hb : d < tmMax
        · exact he ⟨e, hb⟩
        · rw [e, getT_big hb] at hn; cases hn
      rw [getD_put_ne hnd]
      have hg : ∀ g ∈ tv.gs, g.1 ≠ d := fun g hg => ne (gi n tv hn g hg)
      rcases hs.T n tv hn with ⟨h1, h2⟩ | ⟨h1, h2⟩
      · exact .inl ⟨(facts_put hg).2 h1, x2.relAV (fun k hk hnw => (hnew k hnw).t n tv hn h1 hk) h2⟩
      · exact .inr ⟨fun h => h1 ((facts_put hg).1 h), h2⟩
  · rw [gT] at hk
    split at hk
    · rename_i he
      cases hk
      have hg' := (facts_put (fun g hg => ne (hctx g hg))).1 hg
      rcases hz with ⟨_, _, h3⟩ | ⟨h1, _⟩
      · exact h3 n hf hn
      · exact (h1 hg').elim
    · exact hf.t k tv hk ((facts_put (fun g hg => ne (gi k tv hk g hg))).1 hg)

theorem GI.put {done : List Nat} (gi : GI s done) {d : Nat} {ctx : List (Nat × Bool)} (hctx : ∀ g ∈ ctx, g.1 ∈ done) {av : AV (std E N)} {wr : Wr (std E N)} (hw : wr.ts = [(d, some ⟨ctx, av⟩)]) : GI (s.apply wr) (d :: done) := by
  intro n tv hn g hg
  rw [State.getT_apply1 s d _ wr hw] at hn
  split at hn
  · cases hn; exact List.mem_cons_of_mem _ (hctx g hg)
  · exact List.mem_cons_of_mem _ (gi n tv hn g hg)

theorem after_none (hs : Sim P n0 nt β σ s a w) {new : Nat → Prop} (hnew : ∀ n, new n → Fresh a s n) {wr : Wr (std E N)} (ht0 : wr.ts = [])
    (m : Mem P n0 β' σ' (s.apply wr) w') (x : Ext P new β σ s w β' σ' (s.apply wr) w') (t : Tidy a new s (s.apply wr)) : After P n0 nt new β σ s a w none wr a w' := by
  refine ⟨β', σ', ⟨Nat.le_trans hs.n0le x.size, hs.size, fun n tv hn => ?_, m⟩, x, t.fresh, t.cleanB, t.cleanH, rfl, fun _ _ => rfl⟩
  rw [State.getT_apply0 s wr ht0] at hn
  rcases hs.T n tv hn with ⟨h1, h2⟩ | ⟨h1, h2⟩
  · exact .inl ⟨h1, x.relAV (fun k hk hnw => (hnew k hnw).t n tv hn h1 hk) h2⟩
  · exact .inr ⟨h1, h2⟩

/-- The context of guards tells whether the operation runs. -/
theorem ctx_ok (hs : Sim P n0 nt β σ s a w) {done : List Nat} (gi : GI s done) {ops : Array Oper} {o : Oper} {ctx : List (Nat × Bool)} {k k' : Nat} (h : RM.run s (ctxOf (O := std E N) ops.toList o) k = .ok (ctx, k'))
    (hg : ∀ j want d, o.guard = some (j, want) → (ops[j]?).bind (·.dst) = some d → d ∈ done) :
    (Region.wanted o (yielded ops a.tmps) = true ↔ Facts a ctx) ∧ (∀ g ∈ ctx, g.1 ∈ done) ∧ (o.guard = none → ctx = []) := by
  unfold ctxOf at h
  split at h
  · rename_i hn
    cases RM.ret_ok h
    exact ⟨⟨fun _ n b hm => by simp at hm, fun _ => by simp [Region.wanted, hn]⟩, fun g hm => by simp at hm, fun _ => rfl⟩
  · rename_i j want hn
    split at h
    · rename_i d hd
      obtain ⟨k1, h⟩ := RM.t_ok h
      cases ht : s.getT d with
      | none => rw [ht] at h; exact (RM.fail_ok h).elim
      | some tv =>
        rw [ht] at h
        cases RM.ret_ok h
        have hd' : (ops[j]?).bind (·.dst) = some d := by rw [← Array.getElem?_toList]; exact hd
        have hdd := hg j want d hn hd'
        have hy : yielded ops a.tmps j = some want ↔ a.tmps.getD d undef = .bool want := by
          unfold yielded
          rw [hd', Option.bind_some, Array.getD_eq_getD_getElem?]
          cases hx : a.tmps[d]? with
          | none => simp [undef]
          | some v => cases v <;> simp
        have hw : Region.wanted o (yielded ops a.tmps) = true ↔ a.tmps.getD d undef = .bool want := by
          rw [← hy]; simp [Region.wanted, hn]
        refine ⟨⟨fun h => ?_, fun hf => hw.2 (hf d want List.mem_cons_self)⟩, fun g hm => ?_, fun h => by rw [hn] at h; cases h⟩
        · have hv := hw.1 h
          rcases hs.T d tv ht with ⟨h1, _⟩ | ⟨_, h2⟩
          · intro n b hm
            rcases List.mem_cons.1 hm with e | hm
            · cases e; exact hv
            · exact h1 n b hm
          · rw [hv] at h2; simp [undef] at h2
        · rcases List.mem_cons.1 hm with rfl | hm
          · exact hdd
          · exact gi d tv ht g hm
    · exact (RM.fail_ok h).elim

theorem guardB_none : ∀ {gs : List (Nat × Bool)} {m m' : Nat}, RM.run s (guardB (O := std E N) gs) m = .ok (none, m') → gs = []
  | [], _, _, _ => rfl
  | (n, want) :: r, m, m', h => by
    obtain ⟨m1, h⟩ := RM.t_ok h
    split at h
    · obtain ⟨g, m2, h1, h2⟩ := RM.bind_ok h
      have := RM.ret_ok h2
      cases this
    · exact (RM.fail_ok h).elim

theorem refreeze_ok : ∀ {fr l : List (Nat × Option (HEnt (std E N)))} {k k' : Nat}, RM.run s (refreeze (O := std E N) fr) k = .ok (l, k') → FrOK s l ∧ (FrOK s fr → l = fr)
  | [], l, k, k', h => by cases RM.ret_ok h; exact ⟨fun _ _ hm => by simp at hm, fun _ => rfl⟩
  | (n, v) :: r, l, k, k', h => by
    obtain ⟨k1, h⟩ := RM.h_ok h
    cases hh : s.getH n with
    | none => rw [hh] at h; exact (RM.fail_ok h).elim
    | some e =>
      rw [hh] at h
      obtain ⟨l2, k2, h1, h2⟩ := RM.bind_ok h
      cases RM.ret_ok h2
      obtain ⟨a1, a2⟩ := refreeze_ok h1
      refine ⟨fun q v hm => ?_, fun hf => ?_⟩
      · rcases List.mem_cons.1 hm with e1 | hm
        · cases e1; exact ⟨e, hh, rfl⟩
        · exact a1 q v hm
      · obtain ⟨h0, q1, q2⟩ := hf n v List.mem_cons_self
        rw [hh] at q1; cases q1
        rw [a2 (fun q v hm => hf q v (List.mem_cons_of_mem _ hm)), q2]

end
end Go.Px
