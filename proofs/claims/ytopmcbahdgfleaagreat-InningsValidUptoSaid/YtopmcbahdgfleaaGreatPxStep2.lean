/-
Px: one operation of a region, proved.
-/
import Derived.Test.YtopmcbahdgfleaaGreatPxStep
namespace Go.Px
set_option linter.unusedVariables false
set_option linter.unusedSimpArgs false

section
variable {E : Env} {N : Nat} {P : Program} {cfg : Cfg} {n0 n0' : Nz} {nt : Nat} {β β' : Nat → Option Nat} {σ σ' : Nat → Option (Nat × Nat)} {s s' : St0 E N} {a : Act} {w w' : World}

theorem Tidy.of_sub {fr : List (Nat × Option (HEnt (std E N)))} (h : PreOK s fr) {wr : Wr (std E N)} (hw : wr.hs = fr) (hb : wr.bs = []) (ht : wr.ts = []) (new : Nat → Prop) : Tidy a new s (s.apply wr) where
  fresh n hf _ := ⟨fun k tv hk => by rw [State.getT_apply0 s wr ht] at hk; exact hf.t k tv hk, fun k e he => by rw [State.getB_apply0 s wr hb] at he; exact hf.b k e he, fun k e he => by
    obtain ⟨h0, q1, _⟩ := h.get hw k e he; exact hf.h k h0 q1⟩
  cleanB n e he hd := by rw [State.getB_apply0 s wr hb] at he; exact he
  cleanH n e he hd := by
    obtain ⟨h0, q1, q2⟩ := h.get hw n e he
    rcases q2 with rfl | rfl
    · exact q1
    · cases hd

theorem Tidy.weaken {new new' : Nat → Prop} (t : Tidy a new s s') (h : ∀ n, new n → new' n) : Tidy a new' s s' :=
  ⟨fun n hf hn => t.fresh n hf (fun k => hn (h n k)), t.cleanB, t.cleanH⟩

theorem cntOf_pos {o : Oper} (h : isMem P o.op = true) : 0 < cntOf P o := by
  unfold isMem at h
  unfold cntOf
  cases hop : o.op <;> rw [hop] at h <;> first | (exact Nat.one_pos) | (cases h; done) | skip
  rename_i c
  simp only at h ⊢
  cases hc : c.callee <;> rw [hc] at h <;> first | (exact Nat.one_pos) | cases h

theorem findCI_ok : ∀ {gam : List CI} {f : Nat} {fns : List Nat} {ci : CI}, findCI gam f fns = some ci → ci ∈ gam ∧ ci.f = f ∧ ci.fns = fns
  | c :: l, f, fns, ci, h => by
    simp only [findCI] at h
    split at h
    · rename_i hb
      cases h
      simp only [Bool.and_eq_true] at hb
      exact ⟨List.mem_cons_self, natBeq_iff.1 hb.1, natListEq_iff.1 hb.2⟩
    · obtain ⟨h1, h2⟩ := findCI_ok h
      exact ⟨List.mem_cons_of_mem _ h1, h2⟩
  | [], _, _, _, h => by simp [findCI] at h

/-- What a call gives. -/
theorem callStep_ok {ctx : List (Nat × Bool)} {g : Option Bool} {id : Nat} {d : Option Nat} {f : FuncId} {caps : List (Nat × Nat)} {args : List (AV (std E N))} {sr : StepRes (std E N)} {m m' : Nat}
    (h : RM.run s (callStep (O := std E N) P cfg ctx g id d f caps args) m = .ok (sr, m')) :
    (g = none ∧ sr = .inl f (args ++ caps.map fun (b, o) => one (.ptr b o))) ∨
    (caps = [] ∧ ∃ fns ci fn ls fr u dm m2 m3, argFns args = some fns ∧ findCI cfg.gam f fns = some ci ∧ P.funcs[f]? = some fn ∧ fn.body.isSome = true ∧ (fn.name == "runtime.NumGoroutine") = false ∧ argsOk P fn.params.toList args = true ∧
      RM.run s (argLf (O := std E N) ci.gives [] args) m2 = .ok ((ls, fr, u), m3) ∧ noneIn u fr = true ∧
      sr = .call g f fns ls dm (nextOf P ctx g id d ci fn fr u)) := by
  unfold callStep at h
  cases caps with
  | cons c0 cr => cases g with
    | none => exact .inl ⟨rfl, (RM.ret_ok h).symm⟩
    | some b => exact (RM.fail_ok h).elim
  | nil => cases g with
    | none =>
      simp only at h
      split at h
      · exact .inl ⟨rfl, (RM.ret_ok h).symm⟩
      · rename_i fns hfns
        split at h
        · exact .inl ⟨rfl, (RM.ret_ok h).symm⟩
        · rename_i ci hci
          split at h
          · exact (RM.fail_ok h).elim
          · rename_i fn hfn
            obtain ⟨_, m1, h1, h2⟩ := RM.bind_ok h
            obtain ⟨⟨ls, fr, u⟩, m2, h3, h4⟩ := RM.bind_ok h2
            have hg := RM.guard_ok h1
            simp only [Bool.and_eq_true, Bool.not_eq_true'] at hg
            simp only at h4
            split at h4
            · rename_i dm hdm hnone
              have := RM.ret_ok h4
              exact .inr ⟨rfl, fns, ci, fn, ls, fr, u, dm, m1, m2, hfns, hci, hfn, hg.1.1, hg.1.2, hg.2, h3, hnone, this.symm⟩
            · exact (RM.fail_ok h4).elim
    | some b =>
      simp only at h
      split at h
      · exact (RM.fail_ok h).elim
      · rename_i fns hfns
        split at h
        · exact (RM.fail_ok h).elim
        · rename_i ci hci
          split at h
          · exact (RM.fail_ok h).elim
          · rename_i fn hfn
            obtain ⟨_, m1, h1, h2⟩ := RM.bind_ok h
            obtain ⟨⟨ls, fr, u⟩, m2, h3, h4⟩ := RM.bind_ok h2
            have hg := RM.guard_ok h1
            simp only [Bool.and_eq_true, Bool.not_eq_true'] at hg
            simp only at h4
            split at h4
            · rename_i dm hdm hnone
              have := RM.ret_ok h4
              exact .inr ⟨rfl, fns, ci, fn, ls, fr, u, dm, m1, m2, hfns, hci, hfn, hg.1.1, hg.1.2, hg.2, h3, hnone, this.symm⟩
            · exact (RM.fail_ok h4).elim

/-- An operation that is no call of a function. -/
theorem opStep_plain {ops : Array Oper} {o : Oper} {i id : Nat} {done : List Nat} {Q : Exit → Act → World → Prop} {K : Act → World → Prop} {as : List Bool} {wr : Wr (std E N)} {m m' : Nat}
    (hs : Sim P n0 nt β σ s a w) (gi : GI s done) (hg : ∀ j want d, o.guard = some (j, want) → (ops[j]?).bind (·.dst) = some d → d ∈ done) (hdst : ∀ d, o.dst = some d → d ∉ done ∧ d < nt)
    (hid : ∀ n, id ≤ n → n < id + cntOf P o → Fresh a s n) (ho : ops[i]? = some o) (h : RM.run s (opStep P cfg ops.toList o id) m = .ok (.plain as wr, m')) (has : ∀ b ∈ as, b = true)
    (hK : ∀ a' w', After P n0 nt (fun n => id ≤ n ∧ n < id + cntOf P o) β σ s a w o.dst wr a' w' → GI (s.apply wr) (o.dst.toList ++ done) → K a' w') : wpOp P ops Q i K a w := by
  unfold opStep at h
  obtain ⟨ctx, m1, h1, h2⟩ := RM.bind_ok h
  obtain ⟨g, m2, h3, h4⟩ := RM.bind_ok h2
  obtain ⟨c1, c2, c3⟩ := ctx_ok hs gi h1 hg
  have hnew : ∀ n, (id ≤ n ∧ n < id + cntOf P o) → Fresh a s n := fun n h => hid n h.1 h.2
  have goW : ∀ (hw : Region.wanted o (yielded ops a.tmps) = true), o.wp P a w K Q → wpOp P ops Q i K a w := fun hw h => by
    unfold wpOp; simp only [ho, hw, if_true]; exact .inl h
  have goN : ∀ (hw : ¬ Region.wanted o (yielded ops a.tmps) = true), K (a.put o.dst undef) w → wpOp P ops Q i K a w := fun hw h => by
    unfold wpOp; simp only [ho, hw, if_false]; exact h
  split at h4
  · -- store
    rename_i T x y hop
    split at h4
    · exact (RM.fail_ok h4).elim
    · have hctx : ctx = [] := guardB_none h3
      subst hctx
      have hf : Facts a [] := fun n b hm => by simp at hm
      obtain ⟨p, m3, h5, h6⟩ := RM.bind_ok h4
      obtain ⟨v, m4, h7, h8⟩ := RM.bind_ok h6
      obtain ⟨wr', m5, h9, h10⟩ := RM.bind_ok h8
      split at h10
      · rename_i hd
        have hr := RM.ret_ok h10
        simp only [StepRes.plain.injEq] at hr
        obtain ⟨rfl, rfl⟩ := hr
        obtain ⟨hp, _, _⟩ := evC_ok hs hf h5
        obtain ⟨hv, hvn⟩ := evV_ok hs hf h7
        obtain ⟨w', r1, r2, r3, r4, r5⟩ := storeCs_ok (a := a) hs.n0le hs.M hp hv.1 hvn h9
        refine goW (c1.2 hf) ?_
        unfold Oper.wp
        have : (execOp a.eval o).run P w = .ok .skip w' := by simp [execOp, hop, r1]
        rw [this]
        show K (a.put o.dst undef) w'
        rw [hd]
        refine hK _ _ ?_ ?_
        · rw [hd]
          exact after_none hs hnew r5 r2 (r3.weaken (fun n h => h.elim)) (r4.weaken (fun n h => h.elim))
        · rw [hd]
          intro n tv hn
          rw [State.getT_apply0 s _ r5] at hn
          exact gi n tv hn
      · exact (RM.fail_ok h10).elim
  · -- a call of a function
    obtain ⟨f, m3, h5, h6⟩ := RM.bind_ok h4
    split at h6
    · split at h6
      · exact (RM.fail_ok h6).elim
      · obtain ⟨_, m40, h60, h61⟩ := RM.bind_ok h6
        obtain ⟨args, m4, h7, h8⟩ := RM.bind_ok h61
        rcases callStep_ok h8 with ⟨_, h9⟩ | ⟨_, fns, ci, fn, ls, fr, u, dm, m2, m3, _, _, _, _, _, _, _, _, h9⟩ <;> cases h9
    · exact (RM.fail_ok h6).elim
  · -- memory
    rename_i hmem _ _
    split at h4
    · rename_i d hd
      have hctx : ctx = [] := guardB_none h3
      subst hctx
      have hf : Facts a [] := fun n b hm => by simp at hm
      obtain ⟨⟨as', c, wr'⟩, m3, h5, h6⟩ := RM.bind_ok h4
      have hr := RM.ret_ok h6
      simp only [StepRes.plain.injEq] at hr
      obtain ⟨rfl, rfl⟩ := hr
      have hpos := cntOf_pos hmem
      obtain ⟨z, β', σ', w', r1, r2, r3, r4, r5, r6, r7⟩ := opMem_ok hs hf (hid id (Nat.le_refl _) (by omega)) h5 has
      have hwr : wr' = { bs := wr'.bs, hs := wr'.hs } := by cases wr'; simp only at r7; subst r7; rfl
      refine goW (c1.2 hf) ?_
      unfold Oper.wp
      rw [r1]
      show K (a.put o.dst z) w'
      rw [hd]
      have hdd := hdst d hd
      refine hK _ _ ?_ ?_
      · rw [hd]
        rw [hwr] at r2 r3 r4 r5
        exact after_put hs gi hdd.1 hdd.2 hnew c2 r2 (r3.weaken (fun n h => by subst h; omega)) (r4.weaken (fun n h => by subst h; omega)) (.inl ⟨hf, relAV_one r5, fun n hn hnn => by
          have := r6 n hn (fun e => hnn (by subst e; omega))
          simpa [AV.names, one, namesCs] using this⟩)
      · rw [hd]; exact GI.put gi c2 rfl
    · exact (RM.fail_ok h4).elim
  · -- all others
    split at h4
    · rename_i d hd
      obtain ⟨⟨as', v, fr⟩, m3, h5, h6⟩ := RM.bind_ok h4
      obtain ⟨fr', m4, h7, h8⟩ := RM.bind_ok h6
      have hr := RM.ret_ok h8
      simp only [StepRes.plain.injEq] at hr
      obtain ⟨rfl, rfl⟩ := hr
      obtain ⟨f1, f2⟩ := refreeze_ok h7
      have hdd := hdst d hd
      have sub := f1.sub (wr := { bs := [], hs := fr' }) rfl rfl
      by_cases hw : Region.wanted o (yielded ops a.tmps) = true
      · have hf := c1.1 hw
        refine goW hw ?_
        have hgt : ∀ b, g = some b → b = true := guardB_ok hs hf h3
        obtain ⟨z, r1, r2, r3, r4⟩ := opPure_ok hs hf h5 (fun b hb => by
          have := has (guarded g b) (List.mem_map.2 ⟨b, hb, rfl⟩)
          unfold guarded at this
          cases g with
          | none => exact this
          | some g => have := hgt g rfl; subst this; simpa using this)
        have := f2 r4
        subst this
        unfold Oper.wp
        rw [r1]
        show K (a.put o.dst z) w
        rw [hd]
        refine hK _ _ ?_ ?_
        · rw [hd]
          exact after_put (bs := []) hs gi hdd.1 hdd.2 hnew c2 (sub.mem hs.M) (sub.ext P _ β σ w) (Tidy.of_sub f1.pre rfl rfl rfl _) (.inl ⟨hf, r2, fun n hn _ => r3 n hn⟩)
        · rw [hd]; exact GI.put gi c2 rfl
      · refine goN hw ?_
        rw [hd]
        refine hK _ _ ?_ ?_
        · rw [hd]
          exact after_put (bs := []) hs gi hdd.1 hdd.2 hnew c2 (sub.mem hs.M) (sub.ext P _ β σ w) (Tidy.of_sub f1.pre rfl rfl rfl _) (.inr ⟨fun h => hw (c1.2 h), rfl⟩)
        · rw [hd]; exact GI.put gi c2 rfl
    · exact (RM.fail_ok h4).elim

end
end Go.Px
