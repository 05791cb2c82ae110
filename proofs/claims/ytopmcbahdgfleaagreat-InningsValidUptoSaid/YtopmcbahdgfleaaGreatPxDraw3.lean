/-
Px: a region that draws its order, as code.
-/
import Derived.Test.YtopmcbahdgfleaaGreatPxDraw2
namespace Go.Px
set_option linter.unusedVariables false
set_option linter.unusedSimpArgs false

section
variable {E : Env} {N : Nat} {P : Program} {cfg : Cfg} {n0 n0' : Nz} {nt : Nat} {β β' : Nat → Option Nat} {σ σ' : Nat → Option (Nat × Nat)} {s s' s2 : St0 E N} {a : Act} {w w' : World}

theorem Sim.grow (hs : Sim P n0 nt β σ s a w) (g : Grow w w') : Sim P n0 nt β σ s a w' := by
  have x := g.ext P (fun _ => False) β σ s
  refine ⟨Nat.le_trans hs.n0le g.size, hs.size, fun n tv hn => ?_, hs.M.grow g⟩
  rcases hs.T n tv hn with ⟨h1, h2⟩ | h1
  · exact .inl ⟨h1, x.relAV (fun _ _ h => h) h2⟩
  · exact .inr h1

theorem stD_none {D : Nat → Bool} (h : ∀ i, D i = false) : ∀ (tr : List (Rc E N)) (i : Nat) (s : St0 E N), stD D i tr s = s
  | [], i, s => rfl
  | t :: tr, i, s => by
    simp only [stD, h i]
    exact stD_none h tr _ _

/-- A region in whatever order. -/
theorem region_draw (hmix : P.follows .mixedOrders = true) (inl : Inl E N) (hΓ : ∀ ci ∈ cfg.gam, Valid P E N ci ∧ Valid P E N { ci with own := false }) {ops : Array Oper} {rid : Nat} (hdn : dstsIn nt ops.toList = true) {Q : Exit → Act → World → Prop} {r : List PV}
    {k : St0 E N → Option (List PV)} (h : runRegion (O := std E N) P cfg inl ops.toList true s k = some r) (hs : Sim P n0 nt β σ s a w) (wf : WF s)
    (hQ : ∀ (s' : St0 E N) (β' : Nat → Option Nat) (σ' : Nat → Option (Nat × Nat)) (a' : Act) (w' : World), k s' = some r → Post P n0 nt s.st (fun n => n ∈ dstList ops.toList) β σ s a w β' σ' s' a' w' → WF s' → s.st ≤ s'.st → Q .normal a' w') :
    (Code.region rid ops true).wp P Q a w := by
  unfold runRegion at h
  split at h
  · cases h
  · rename_i hok
    simp only [Bool.and_eq_true] at hok
    obtain ⟨tr, id', htr, h2, hid, hids⟩ := runOps_tr inl _ _ _ _ _ h
    simp only [Bool.not_true, Bool.false_or, List.nil_append] at h2
    split at h2
    · cases h2
    rename_i hap
    have g : Grow w { w with drawn := w.drawn + 1 } := ⟨rfl, rfl, rfl, Nat.le_refl _, fun _ _ => rfl⟩
    have hs0 := hs.grow g
    have hD0 : ∀ i, (Array.replicate ops.size false).getD i false = false := fun i => by
      rw [Array.getD_eq_getD_getElem?]
      by_cases hi : i < ops.size
      · rw [Array.getElem?_eq_getElem (by simpa using hi)]; simp
      · rw [Array.getElem?_eq_none (by simpa using hi)]; rfl
    refine wp_region_any hmix ?_
    refine any_order (n0 := n0) (L := s.st) (β := β) (σ := σ) (a := a) (w := { w with drawn := w.drawn + 1 }) hΓ (nodupN_iff hok.1) hok.2.1 hok.2.2 (dstsIn_lt hdn) htr hap (fun D a' w' hall inv => ?_) ops.size _ a _ (by simp) ?_ (fun i j hi => ?_) ?_
    · obtain ⟨β', σ', hp⟩ := inv.post
      have hsame : Same (stD D 0 tr s) (stD (fun _ => true) 0 tr s) := fun p => look_stD rfl (fun k t hk _ => by
        rw [Nat.zero_add]
        refine hall k ?_
        have := (List.getElem?_eq_some_iff.1 hk).1
        rw [htr.len] at this
        simpa using this)
      have hp1 := hp.same hsame
      have hp2 : Post P n0 nt s.st (fun n => n ∈ dstList ops.toList) β σ s a w β' σ' (stD (fun _ => true) 0 tr s) a' w' :=
        ⟨hp1.sim, ((g.ext P (fun _ => False) β σ s).trans hp1.ext).weaken (fun n h => h.elim (fun h => h.elim) (fun h => h)), hp1.cleanB, hp1.cleanH, hp1.defers, hp1.tmps⟩
      have hf : ∀ n, id' ≤ n → Fresh a' (stD (fun _ => true) 0 tr s) n := fun n hn => (inv.fresh n (Nat.le_trans hid hn) (fun i o t _ ho ht hc => by
        have := hids i o t ho ht; omega)).same hsame
      have wf' : WF ({ stD (fun _ => true) 0 tr s with tm := purge (stD (fun _ => true) 0 tr s).tm, st := id' } : St0 E N) := ⟨fun n hn => ⟨⟨(hf n hn).b, (hf n hn).h⟩, fun k tv hk => by
        obtain ⟨h1, h2⟩ := purged_some hk
        exact (hf n hn).t k tv h1 (fun m b hm => by rw [h2] at hm; simp at hm)⟩, fun n tv hn => (purged_some hn).2⟩
      have sub : Sub (stD (fun _ => true) 0 tr s) ({ stD (fun _ => true) 0 tr s with tm := purge (stD (fun _ => true) 0 tr s).tm, st := id' } : St0 E N) := Sub.of_same (fun _ => rfl) (fun _ => rfl)
      exact hQ _ β' σ' a' w' h2 ⟨hp2.sim.purged id', (hp2.ext.trans (sub.ext P (fun _ => False) β' σ' w')).weaken (fun n h => h.elim (fun h => h) (fun h => h.elim)), hp2.cleanB, hp2.cleanH, hp2.defers, hp2.tmps⟩ wf' hid
    · have := List.length_filter_le (fun i => !(Array.replicate ops.size false).getD i false) (List.range ops.size)
      simpa using this
    · rw [hD0] at hi; cases hi
    · have e := stD_none (fun i => hD0 i) tr 0 s
      refine ⟨⟨β, σ, ?_⟩, ?_, fun n hn _ => ?_⟩
      · rw [e]; exact ⟨hs0, Ext.refl _ _ _ _ _ _, fun n e h _ => h, fun n e h _ => h, rfl, fun _ _ => rfl⟩
      · rw [e]; exact wf.gi.mono (fun x hx => by simp at hx)
      · rw [e]; exact wf.free a n hn

end
end Go.Px
