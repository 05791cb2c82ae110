/-
Px: a region that runs in its order, as code.
-/
import Derived.Test.YtopmcbahdgfleaaGreatPxSeq
namespace Go.Px
set_option linter.unusedVariables false
set_option linter.unusedSimpArgs false

section
variable {E : Env} {N : Nat} {P : Program} {cfg : Cfg} {n0 n0' : Nz} {nt : Nat} {β β' : Nat → Option Nat} {σ σ' : Nat → Option (Nat × Nat)} {s s' : St0 E N} {a : Act} {w w' : World}

theorem purge_get {O : Alg} : ∀ (d : Nat) (t : TM (TV O)) (n : Nat), TM.get d (purge t) n = match TM.get d t n with
    | some tv => match tv.gs with
      | [] => some tv
      | _ => none
    | none => none
  | 0, .e, n => rfl
  | 0, .leaf tv, n => by
    cases h : tv.gs <;> simp [purge, h, TM.get]
  | 0, .node l r, n => rfl
  | d + 1, .e, n => rfl
  | d + 1, .leaf tv, n => by
    cases h : tv.gs <;> simp [purge, h, TM.get]
  | d + 1, .node l r, n => by
    simp only [purge, TM.get]
    cases h : Nat.beq (n % 2) 0 with
    | true => exact purge_get d l (n / 2)
    | false => exact purge_get d r (n / 2)

/-- A state between regions. -/
structure WF (s : St0 E N) : Prop where
  fresh : ∀ n, s.st ≤ n → FreshM s n ∧ ∀ k tv, s.getT k = some tv → n ∉ tv.v.names
  gs : ∀ n tv, s.getT n = some tv → tv.gs = []

theorem WF.gi (h : WF s) : GI s [] := fun n tv hn g hg => by rw [h.gs n tv hn] at hg; simp at hg
theorem WF.free (h : WF s) (a : Act) : ∀ n, s.st ≤ n → Fresh a s n := fun n hn => ⟨fun k tv hk _ => (h.fresh n hn).2 k tv hk, (h.fresh n hn).1.1, (h.fresh n hn).1.2⟩

theorem purged_getT (s : St0 E N) (q n : Nat) : ({ s with tm := purge s.tm, st := q } : St0 E N).getT n = match s.getT n with
    | some tv => match tv.gs with
      | [] => some tv
      | _ => none
    | none => none := by
  unfold State.getT getTM
  cases Nat.blt n tmMax with
  | true =>
    show TM.get tmDepth (purge s.tm) n = _
    rw [purge_get]
    cases TM.get tmDepth s.tm n <;> rfl
  | false => rfl

theorem purged_some {q n : Nat} {tv : TV (std E N)} (h : ({ s with tm := purge s.tm, st := q } : St0 E N).getT n = some tv) : s.getT n = some tv ∧ tv.gs = [] := by
  rw [purged_getT] at h
  cases hs : s.getT n with
  | none => rw [hs] at h; cases h
  | some u =>
    rw [hs] at h
    simp only at h
    split at h
    · rename_i hg; cases h; exact ⟨rfl, hg⟩
    · cases h

theorem Sim.purged (hs : Sim P n0 nt β σ s a w) (q : Nat) : Sim P n0 nt β σ { s with tm := purge s.tm, st := q } a w := by
  have sub : Sub s ({ s with tm := purge s.tm, st := q } : St0 E N) := Sub.of_same (fun _ => rfl) (fun _ => rfl)
  refine ⟨hs.n0le, hs.size, fun n tv hn => ?_, sub.mem hs.M⟩
  obtain ⟨h1, h2⟩ := purged_some hn
  rcases hs.T n tv h1 with ⟨h3, h4⟩ | ⟨h3, h4⟩
  · exact .inl ⟨h3, (sub.ext P (fun _ => False) β σ w).relAV (fun _ _ h => h) h4⟩
  · exact .inr ⟨h3, h4⟩

theorem nodupN_iff : ∀ {l : List Nat}, nodupN l = true → l.Nodup
  | [], _ => List.nodup_nil
  | n :: l, h => by
    simp only [nodupN, Bool.and_eq_true, Bool.not_eq_true'] at h
    exact List.nodup_cons.2 ⟨fun hm => (by have := memN_iff.2 hm; rw [this] at h; cases h.1), nodupN_iff h.2⟩

theorem dstsIn_lt : ∀ {l : List Oper}, dstsIn nt l = true → ∀ d ∈ dstList l, d < nt
  | [], _, d, hd => by simp [dstList] at hd
  | o :: l, h, d, hd => by
    simp only [dstsIn, Bool.and_eq_true] at h
    simp only [dstList] at hd
    cases ho : o.dst with
    | none => rw [ho] at hd; exact dstsIn_lt h.2 d hd
    | some x =>
      rw [ho] at hd h
      rcases List.mem_cons.1 hd with rfl | hd
      · exact natBlt_iff.1 h.1
      · exact dstsIn_lt h.2 d hd

/-- A region in its order. -/
theorem region_seq (inl : Inl E N) (hInl : InlOK P inl) (hΓ : ∀ ci ∈ cfg.gam, Valid P E N ci ∧ Valid P E N { ci with own := false }) {ops : Array Oper} {rid : Nat} (hdn : dstsIn nt ops.toList = true) {Q : Exit → Act → World → Prop} {r : List PV}
    {k : St0 E N → Option (List PV)} (h : runRegion (O := std E N) P cfg inl ops.toList false s k = some r) (hs : Sim P n0 nt β σ s a w) (wf : WF s)
    (hQ : ∀ (s' : St0 E N) (β' : Nat → Option Nat) (σ' : Nat → Option (Nat × Nat)) (a' : Act) (w' : World), k s' = some r → Post P n0 nt s.st (fun n => n ∈ dstList ops.toList) β σ s a w β' σ' s' a' w' → WF s' → s.st ≤ s'.st → Q .normal a' w') :
    (Code.region rid ops false).wp P Q a w := by
  unfold runRegion at h
  split at h
  · cases h
  · rename_i hok
    simp only [Bool.and_eq_true] at hok
    have hg := guards_lt hok.2.1
    refine wp_region ?_
    have hr : List.range ops.size = List.range' ([] : List Oper).length ops.toList.length := by simp [List.range_eq_range']
    rw [hr]
    refine runOps_seq inl hInl hΓ (nodupN_iff hok.1) (fun k o ho j want hgd => by have := hg k o ho j want hgd; omega) (dstsIn_lt hdn) ops.toList [] s.st s [] _ β σ a w rfl h hs wf.gi (wf.free a) (fun s' ms' id' β' σ' a' w' hk hp hle hf hgi => ?_)
    have wf' : WF ({ s' with tm := purge s'.tm, st := id' } : St0 E N) := ⟨fun n hn => ⟨⟨(hf n hn).b, (hf n hn).h⟩, fun k tv hk => by
      obtain ⟨h1, h2⟩ := purged_some hk
      exact (hf n hn).t k tv h1 (fun m b hm => by rw [h2] at hm; simp at hm)⟩, fun n tv hn => (purged_some hn).2⟩
    have sub : Sub s' ({ s' with tm := purge s'.tm, st := id' } : St0 E N) := Sub.of_same (fun _ => rfl) (fun _ => rfl)
    exact hQ _ β' σ' a' w' hk ⟨hp.sim.purged id', (hp.ext.trans (sub.ext P (fun _ => False) β' σ' w')).weaken (fun n h => h.elim (fun h => h) (fun h => h.elim)), hp.cleanB, hp.cleanH, hp.defers, hp.tmps⟩ wf' hle

end
end Go.Px
