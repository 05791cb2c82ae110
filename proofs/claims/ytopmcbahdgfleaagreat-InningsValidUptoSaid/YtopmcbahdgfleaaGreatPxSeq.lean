/-
Px: regions that run in their order.
-/
import Derived.Test.YtopmcbahdgfleaaGreatPxStep3
namespace Go.Px
set_option linter.unusedVariables false
set_option linter.unusedSimpArgs false

section
variable {E : Env} {N : Nat} {P : Program} {cfg : Cfg} {n0 n0' : Nz} {nt : Nat} {β β' : Nat → Option Nat} {σ σ' : Nat → Option (Nat × Nat)} {s s' : St0 E N} {a : Act} {w w' : World}

/-- What is so behind a stretch of a function's run. -/
structure Post (P : Program) (n0 : Nz) (nt L : Nat) (D : Nat → Prop) (β : Nat → Option Nat) (σ : Nat → Option (Nat × Nat)) (s : St0 E N) (a : Act) (w : World)
    (β' : Nat → Option Nat) (σ' : Nat → Option (Nat × Nat)) (s' : St0 E N) (a' : Act) (w' : World) : Prop where
  sim : Sim P n0 nt β' σ' s' a' w'
  ext : Ext P (fun n => L ≤ n) β σ s w β' σ' s' w'
  cleanB : ∀ n e, s'.getB n = some e → e.dirty = false → s.getB n = some e
  cleanH : ∀ n e, s'.getH n = some e → e.dirty = false → s.getH n = some e
  defers : a'.defers = a.defers
  tmps : ∀ n, ¬ D n → a'.tmps.getD n undef = a.tmps.getD n undef

theorem Post.trans {L L' : Nat} {D D' : Nat → Prop} {β'' : Nat → Option Nat} {σ'' : Nat → Option (Nat × Nat)} {s'' : St0 E N} {a' a'' : Act} {w'' : World} (h : Post P n0 nt L D β σ s a w β' σ' s' a' w') (k : Post P n0 nt L' D' β' σ' s' a' w' β'' σ'' s'' a'' w'') (hl : L ≤ L') :
    Post P n0 nt L (fun n => D n ∨ D' n) β σ s a w β'' σ'' s'' a'' w'' :=
  ⟨k.sim, (h.ext.trans k.ext).weaken (fun n hn => hn.elim (fun h => h) (fun h => Nat.le_trans hl h)), fun n e h1 h2 => h.cleanB n e (k.cleanB n e h1 h2) h2, fun n e h1 h2 => h.cleanH n e (k.cleanH n e h1 h2) h2,
    k.defers.trans h.defers, fun n hn => (k.tmps n (fun h => hn (.inr h))).trans (h.tmps n (fun h => hn (.inl h)))⟩

theorem assertAll_ok : ∀ {as : List Bool} {m : Option (List PV)} {r : List PV}, assertAll (O := std E N) as m = some r → (∀ b ∈ as, b = true) ∧ m = some r
  | [], m, r, h => ⟨fun b hb => by simp at hb, h⟩
  | b :: as, m, r, h => by
    have h' : (cond b (assertAll (O := std E N) as m) none) = some r := h
    cases b with
    | false => simp at h'
    | true =>
      obtain ⟨h1, h2⟩ := assertAll_ok (as := as) (by simpa using h')
      exact ⟨fun b hb => (List.mem_cons.1 hb).elim (fun e => e) (h1 b), h2⟩

/-- Names of memory that do not occur. -/
def FreshM (s : St0 E N) (n : Nat) : Prop := (∀ k e, s.getB k = some e → n ≠ k ∧ n ∉ namesCs e.cs) ∧ ∀ k e, s.getH k = some e → n ≠ k

abbrev Inl (E : Env) (N : Nat) := FuncId → List (AV (std E N)) → St0 E N → (AV (std E N) → St0 E N → Option (List PV)) → Option (List PV)

/-- Functions that are entered in place. -/
def InlOK (P : Program) (inl : Inl E N) : Prop :=
  ∀ f (args : List (AV (std E N))) (s : St0 E N) k r, inl f args s k = some r → ∀ (n0 : Nz) β σ (w : World) (vals : List Value), n0.n ≤ w.heap.size → Mem P n0 β σ s w →
    (∀ n, s.st ≤ n → FreshM s n) → (∀ x ∈ args, ∀ n ∈ x.names, n < s.st) → RelArgs P n0 β σ s w args vals →
    Calls P f vals.toArray w fun
      | .returned v, w' => ∃ (av : AV (std E N)) (s' : St0 E N) (β' : Nat → Option Nat) (σ' : Nat → Option (Nat × Nat)), k av s' = some r ∧ s'.tm = s.tm ∧ s.st ≤ s'.st ∧ Mem P n0 β' σ' s' w' ∧ Ext P (fun n => s.st ≤ n) β σ s w β' σ' s' w' ∧
          (∀ n e, s'.getB n = some e → e.dirty = false → s.getB n = some e) ∧ (∀ n e, s'.getH n = some e → e.dirty = false → s.getH n = some e) ∧
          RelAV P n0 β' σ' s' w' av v ∧ ∀ n, s'.st ≤ n → FreshM s' n ∧ n ∉ av.names
      | _, _ => False

def dstsL : List Oper → List Nat := dstList

theorem After.post {id : Nat} {dst : Option Nat} {wr : Wr (std E N)} {a' : Act} {n : Nat} (h : After P n0 nt (fun k => id ≤ k ∧ k < id + n) β σ s a w dst wr a' w') :
    ∃ β' σ', Post P n0 nt id (fun k => dst = some k) β σ s a w β' σ' (s.apply wr) a' w' ∧ (∀ k, (∀ j, id ≤ j → Fresh a s j) → id + n ≤ k → Fresh a' (s.apply wr) k) := by
  obtain ⟨β', σ', h1, h2, h3, h4, h5, h6, h7⟩ := h
  exact ⟨β', σ', ⟨h1, h2.weaken (fun k h => h.1), h4, h5, h6, fun k hk => h7 k hk⟩, fun k hf hk => h3 k (hf k (by omega)) (by omega)⟩

theorem guards_lt {ops : List Oper} : ∀ {rest : List Oper} {i : Nat} {bs : List Nat}, guardsOk ops i bs rest = true → ∀ (k : Nat) (o : Oper), rest[k]? = some o → ∀ j want, o.guard = some (j, want) → j < i + k
  | o :: rest, i, b :: bs, h, k, o', hk, j, want, hg => by
    simp only [guardsOk] at h
    cases k with
    | zero =>
      simp at hk; subst hk
      rw [hg] at h
      simp only [Bool.and_eq_true] at h
      exact natBlt_iff.1 h.1.1.1
    | succ k =>
      have h2 : guardsOk ops (i + 1) bs rest = true := by
        split at h
        · exact h
        · simp only [Bool.and_eq_true] at h; exact h.2
      have := guards_lt h2 k o' (by simpa using hk) j want hg
      omega
  | [], _, _, _, k, o', hk, _, _, _ => by simp at hk
  | _ :: _, _, [], h, _, _, _, _, _, _ => by simp [guardsOk] at h

theorem dstList_append : ∀ (a b : List Oper), dstList (a ++ b) = dstList a ++ dstList b
  | [], b => rfl
  | o :: a, b => by
    simp only [List.cons_append, dstList, dstList_append a b]
    cases o.dst <;> rfl

theorem mem_dstList : ∀ {l : List Oper} {k : Nat} {o : Oper} {d : Nat}, l[k]? = some o → o.dst = some d → d ∈ dstList l
  | x :: l, 0, o, d, h, hd => by
    simp at h; subst h
    simp [dstList, hd]
  | x :: l, k + 1, o, d, h, hd => by
    have := mem_dstList (l := l) (k := k) (by simpa using h) hd
    simp only [dstList]
    cases x.dst with
    | none => exact this
    | some y => exact List.mem_cons_of_mem _ this
  | [], k, o, d, h, _ => by simp at h

theorem GI.mono {d d' : List Nat} (gi : GI s d) (h : ∀ x ∈ d, x ∈ d') : GI s d' := fun n tv hn g hg => h _ (gi n tv hn g hg)

theorem evAll_names (hs : Sim P n0 nt β σ s a w) {ctx : List (Nat × Bool)} (hf : Facts a ctx) : ∀ {ts : List TypeId} {xs : List Operand} {vs : List (AV (std E N))} {m m' : Nat}, RM.run s (evAll (O := std E N) P ctx ts xs) m = .ok (vs, m') →
    ∀ x ∈ vs, ∀ n, Fresh a s n → n ∉ x.names
  | [], [], vs, m, m', h => by cases RM.ret_ok h; intro x hx; simp at hx
  | t :: ts, x :: xs, vs, m, m', h => by
    obtain ⟨v, m1, h1, h2⟩ := RM.bind_ok h
    obtain ⟨r, m2, h3, h4⟩ := RM.bind_ok h2
    cases RM.ret_ok h4
    intro y hy
    rcases List.mem_cons.1 hy with rfl | hy
    · exact (ev_ok hs hf h1).2
    · exact evAll_names hs hf h3 y hy
  | [], _ :: _, _, _, _, h => (RM.fail_ok h).elim
  | _ :: _, [], _, _, _, h => (RM.fail_ok h).elim

theorem RelArgs.append : ∀ {xs ys : List (AV (std E N))} {us vs : List Value}, RelArgs P n0 β σ s w xs us → RelArgs P n0 β σ s w ys vs → RelArgs P n0 β σ s w (xs ++ ys) (us ++ vs)
  | [], _, [], _, _, h => h
  | x :: xs, _, u :: us, _, h, h' => ⟨h.1, RelArgs.append h.2 h'⟩
  | [], _, _ :: _, _, h, _ => h.elim
  | _ :: _, _, [], _, h, _ => h.elim

theorem Ext.relArgs (x : Ext P (fun _ => False) β σ s w β' σ' s' w') : ∀ {xs : List (AV (std E N))} {vs : List Value}, RelArgs P n0 β σ s w xs vs → RelArgs P n0 β' σ' s' w' xs vs
  | [], [], h => h
  | y :: xs, v :: vs, h => ⟨x.relAV (fun _ _ h => h) h.1, x.relArgs h.2⟩
  | [], _ :: _, h => h.elim
  | _ :: _, [], h => h.elim

theorem caps_rel : ∀ {caps : List (Nat × Nat)} {vs : List Value}, vs.length = caps.length → (∀ (i b o : Nat), caps[i]? = some (b, o) → ∃ x : Value, vs[i]? = some x ∧ RelPtr β s b o x) →
    RelArgs P n0 β σ s w (caps.map fun (b, o) => (one (.ptr b o) : AV (std E N))) vs
  | [], [], _, _ => trivial
  | (b, o) :: caps, v :: vs, hl, h => by
    obtain ⟨x, hx, hr⟩ := h 0 b o rfl
    simp at hx; subst hx
    exact ⟨relAV_one hr, caps_rel (by simpa using hl) (fun i b o hc => by
      obtain ⟨y, hy, hr2⟩ := h (i + 1) b o (by simpa using hc)
      exact ⟨y, by simpa using hy, hr2⟩)⟩
  | [], _ :: _, hl, _ => by simp at hl
  | _ :: _, [], hl, _ => by simp at hl

/-- What an operation that enters a function in place is. -/
theorem opStep_inl {ops : Array Oper} {o : Oper} {id : Nat} {f : FuncId} {args : List (AV (std E N))} {m m' : Nat} (h : RM.run s (opStep P cfg ops.toList o id) m = .ok (.inl f args, m')) :
    ∃ fop cargs tys caps avs fn m1 m2 m3 m4 m5, o.op = .call ⟨.value fop, cargs, tys⟩ ∧ RM.run s (ctxOf (O := std E N) ops.toList o) m = .ok ([], m1) ∧ RM.run s (ev (O := std E N) P [] 0 fop) m2 = .ok (.val ⟨false, [.fn f caps]⟩, m3) ∧
      P.funcs[f]? = some fn ∧ fn.body.isSome = true ∧ (fn.name == "runtime.NumGoroutine") = false ∧ RM.run s (evAll (O := std E N) P [] (fn.params.toList.take cargs.size) cargs.toList) m4 = .ok (avs, m5) ∧ args = avs ++ caps.map fun (b, o) => one (.ptr b o) := by
  unfold opStep at h
  obtain ⟨ctx, m1, h1, h2⟩ := RM.bind_ok h
  obtain ⟨g', m2, h3, h4⟩ := RM.bind_ok h2
  split at h4
  · split at h4
    · exact (RM.fail_ok h4).elim
    · obtain ⟨p, m3, h5, h6⟩ := RM.bind_ok h4
      obtain ⟨v, m4, h7, h8⟩ := RM.bind_ok h6
      obtain ⟨wr', m5, h9, h10⟩ := RM.bind_ok h8
      split at h10
      · cases RM.ret_ok h10
      · exact (RM.fail_ok h10).elim
  · rename_i fop cargs tys hop
    obtain ⟨fv, m3, h5, h6⟩ := RM.bind_ok h4
    split at h6
    case h_2 => exact (RM.fail_ok h6).elim
    rename_i f' caps
    split at h6
    case h_1 => exact (RM.fail_ok h6).elim
    rename_i fn0 hfn0
    obtain ⟨_, m40, h60, h61⟩ := RM.bind_ok h6
    obtain ⟨avs, m4, h7, h8⟩ := RM.bind_ok h61
    have hg := RM.guard_ok h60
    simp only [Bool.and_eq_true, Bool.not_eq_true'] at hg
    rcases callStep_ok h8 with ⟨hgn, h9⟩ | ⟨hcaps, fns', ci, fn, ls', fr, u, dm', m2, m3, q1, q2, q3, q4, q5, q6, q7, q8, h9⟩
    · subst hgn
      have hc := guardB_none h3
      subst hc
      cases h9
      exact ⟨fop, cargs, tys, caps, avs, fn0, _, _, _, _, _, hop, h1, h5, hfn0, hg.1, hg.2, h7, rfl⟩
    · cases h9
  · split at h4
    · obtain ⟨⟨as', c', wr'⟩, m3, h5, h6⟩ := RM.bind_ok h4
      cases RM.ret_ok h6
    · exact (RM.fail_ok h4).elim
  · split at h4
    · obtain ⟨⟨as', v, fr⟩, m3, h5, h6⟩ := RM.bind_ok h4
      obtain ⟨fr', m4, h7, h8⟩ := RM.bind_ok h6
      cases RM.ret_ok h8
    · exact (RM.fail_ok h4).elim

theorem sim_dst (hs : Sim P n0 nt β σ s a w) {done : List Nat} (gi : GI s done) {d : Nat} (hd : d ∉ done) (hdn : d < nt) {new : Nat → Prop} (hnew : ∀ n, new n → Fresh a s n) {s2 : St0 E N} (htm : s2.tm = s.tm)
    (x : Ext P new β σ s w β' σ' s2 w') (m : Mem P n0 β' σ' s2 w') {av : AV (std E N)} {z : Value} (hr : RelAV P n0 β' σ' s2 w' av z) :
    Sim P n0 nt β' σ' { s2 with tm := setTM s2.tm d (some ⟨[], av⟩) } (a.put (some d) z) w' := by
  have gT : ∀ n, ({ s2 with tm := setTM s2.tm d (some ⟨[], av⟩) } : St0 E N).getT n = if n = d ∧ d < tmMax then some ⟨[], av⟩ else s.getT n := fun n => by
    unfold State.getT
    rw [← htm]
    exact getTM_setTM _ _ _ _
  have sub : Sub s2 ({ s2 with tm := setTM s2.tm d (some ⟨[], av⟩) } : St0 E N) := Sub.of_same (fun _ => rfl) (fun _ => rfl)
  have x2 := sub.ext P (fun _ => False) β' σ' w'
  have ne : ∀ {g : Nat × Bool}, g.1 ∈ done → g.1 ≠ d := fun hg e => hd (e ▸ hg)
  refine ⟨Nat.le_trans hs.n0le x.size, by simp [Act.put, hs.size], fun n tv hn => ?_, sub.mem m⟩
  rw [gT] at hn
  split at hn
  · rename_i he
    cases hn
    rw [he.1, getD_put_same (by rw [hs.size]; exact hdn)]
    exact .inl ⟨fun n b hm => by simp at hm, x2.relAV (fun _ _ h => h) hr⟩
  · rename_i he
    have hnd : n ≠ d := fun e => by
      by_cases hb : d < tmMax
      · exact he ⟨e, hb⟩
      · rw [e, getT_big hb] at hn; cases hn
    rw [getD_put_ne hnd]
    have hg : ∀ g ∈ tv.gs, g.1 ≠ d := fun g hg => ne (gi n tv hn g hg)
    rcases hs.T n tv hn with ⟨h1, h2⟩ | ⟨h1, h2⟩
    · exact .inl ⟨(facts_put hg).2 h1, x2.relAV (fun _ _ h => h) (x.relAV (fun k hk hnw => (hnew k hnw).t n tv hn h1 hk) h2)⟩
    · exact .inr ⟨fun h => h1 ((facts_put hg).1 h), h2⟩

theorem runOps_seq (inl : Inl E N) (hInl : InlOK P inl) (hΓ : ∀ ci ∈ cfg.gam, Valid P E N ci ∧ Valid P E N { ci with own := false }) {ops : Array Oper} (hnd : (dstList ops.toList).Nodup)
    (hg : ∀ (k : Nat) (o : Oper), ops.toList[k]? = some o → ∀ j want, o.guard = some (j, want) → j < k) (hdn : ∀ d ∈ dstList ops.toList, d < nt) {Q : Exit → Act → World → Prop} {r : List PV} :
    ∀ (rest pre : List Oper) (id : Nat) (s : St0 E N) (ms : List (Nat × Nat)) (k : St0 E N → List (Nat × Nat) → Option (List PV)) (β : Nat → Option Nat) (σ : Nat → Option (Nat × Nat)) (a : Act) (w : World), ops.toList = pre ++ rest →
      runOps (O := std E N) P cfg inl ops.toList false rest id s ms k = some r → Sim P n0 nt β σ s a w → GI s (dstList pre) → (∀ n, id ≤ n → Fresh a s n) →
      (∀ (s' : St0 E N) (ms' : List (Nat × Nat)) (id' : Nat) (β' : Nat → Option Nat) (σ' : Nat → Option (Nat × Nat)) (a' : Act) (w' : World), k { s' with st := id' } ms' = some r → Post P n0 nt id (fun n => n ∈ dstList rest) β σ s a w β' σ' s' a' w' → id ≤ id' → (∀ n, id' ≤ n → Fresh a' s' n) → GI s' (dstList ops.toList) → Q .normal a' w') →
      wpOps P ops Q (List.range' pre.length rest.length) a w
  | [], pre, id, s, ms, k, β, σ, a, w, hops, h, hs, gi, hf, hQ => by
    have : runOps (O := std E N) P cfg inl ops.toList false [] id s ms k = k { s with st := id } ms := rfl
    rw [this] at h
    refine hQ s ms id β σ a w h ⟨hs, Ext.refl _ _ _ _ _ _, fun n e h _ => h, fun n e h _ => h, rfl, fun _ _ => rfl⟩ (Nat.le_refl _) hf ?_
    rw [hops]; simpa using gi
  | o :: rest, pre, id, s, ms, k, β, σ, a, w, hops, h, hs, gi, hf, hQ => by
    have hgetL : ops.toList[pre.length]? = some o := by rw [hops, List.getElem?_append_right (Nat.le_refl _)]; simp
    have hget : ops[pre.length]? = some o := by rw [← Array.getElem?_toList]; exact hgetL
    have hdl : dstList ops.toList = dstList pre ++ (o.dst.toList ++ dstList rest) := by
      rw [hops, dstList_append]
      congr 1
      simp only [dstList]
      cases o.dst <;> rfl
    rw [hdl] at hnd
    have hnd2 := (List.nodup_append.1 hnd)
    have hdone : ∀ j want d, o.guard = some (j, want) → (ops[j]?).bind (·.dst) = some d → d ∈ dstList pre := fun j want d h1 h2 => by
      have hj := hg pre.length o hgetL j want h1
      obtain ⟨x, hx, hxd⟩ := Option.bind_eq_some_iff.1 h2
      rw [← Array.getElem?_toList, hops, List.getElem?_append_left hj] at hx
      exact mem_dstList hx hxd
    have hdst : ∀ d, o.dst = some d → d ∉ dstList pre ∧ d < nt := fun d hd => by
      refine ⟨fun hm => hnd2.2.2 d hm d (by simp [hd]) rfl, hdn d (by rw [hdl]; simp [hd])⟩
    have hpre2 : ops.toList = (pre ++ [o]) ++ rest := by rw [hops]; simp
    have hlen : (pre ++ [o]).length = pre.length + 1 := by simp
    have hgi2 : ∀ {s' : St0 E N}, GI s' (o.dst.toList ++ dstList pre) → GI s' (dstList (pre ++ [o])) := fun {s'} g => g.mono (fun x hx => by
      rw [dstList_append]
      rcases List.mem_append.1 hx with h | h
      · refine List.mem_append_right _ ?_
        simp only [dstList]
        cases hd : o.dst with
        | none => rw [hd] at h; simp at h
        | some d => rw [hd] at h; simpa using h
      · exact List.mem_append_left _ h)
    have next : ∀ (wr : Wr (std E N)) (ms2 : List (Nat × Nat)), runOps (O := std E N) P cfg inl ops.toList false rest (id + cntOf P o) (s.apply wr) ms2 k = some r → ∀ a' w', After P n0 nt (fun n => id ≤ n ∧ n < id + cntOf P o) β σ s a w o.dst wr a' w' → GI (s.apply wr) (o.dst.toList ++ dstList pre) →
        wpOps P ops Q (List.range' (pre.length + 1) rest.length) a' w' := fun wr ms2 h a' w' ha hg2 => by
      obtain ⟨β', σ', p1, p2⟩ := ha.post
      rw [← hlen]
      refine runOps_seq inl hInl hΓ (by rw [hdl]; exact hnd) hg hdn rest (pre ++ [o]) (id + cntOf P o) (s.apply wr) ms2 k β' σ' a' w' hpre2 h p1.sim (hgi2 hg2) (fun n hn => p2 n hf hn) (fun s' ms' id' β'' σ'' a'' w'' hk hp hle hf' hg' => ?_)
      have hpt := p1.trans hp (Nat.le_add_right _ _)
      refine hQ s' ms' id' β'' σ'' a'' w'' hk ⟨hpt.sim, hpt.ext, hpt.cleanB, hpt.cleanH, hpt.defers, fun n hn => hpt.tmps n (fun h => hn ?_)⟩ (by omega) hf' hg'
      simp only [dstList]
      rcases h with h | h
      · rw [h]; simp
      · cases o.dst with
        | none => exact h
        | some d => exact List.mem_cons_of_mem _ h
    rw [List.length_cons, List.range'_succ, wpOps_cons]
    unfold runOps at h
    split at h
    · cases h
    · rename_i as wr rd hrun
      obtain ⟨has, h2⟩ := assertAll_ok h
      exact opStep_plain hs gi hdone hdst (fun n h1 _ => hf n h1) hget hrun has (fun a' w' ha hg2 => next wr _ h2 a' w' ha hg2)
    · rename_i g f fns args dm nx rd hrun
      obtain ⟨c, hc, h2⟩ := Option.bind_eq_some_iff.1 h
      split at h2
      · cases h2
      · rename_i wr hn
        exact opStep_call hΓ hs gi hdone hdst (fun n h1 _ => hf n h1) hget hrun (c := c) (by
          cases g with
          | none => exact hc
          | some b => cases b <;> exact hc) hn (fun a' w' ha hg2 => next wr _ h2 a' w' ha hg2)
    · rename_i f args rd hrun
      obtain ⟨fop, cargs, tys, caps, avs, fn, m1, m2, m3, m4, m5, hop, hctx, hev, hfn, hbody, hname, hall, rfl⟩ := opStep_inl hrun
      have hf0 : Facts a [] := fun n b hm => by simp at hm
      have hw := (ctx_ok hs gi hctx hdone).1.2 hf0
      obtain ⟨hv1, hvn⟩ := ev_ok hs hf0 hev
      have hargs := evAll_ok hs hf0 hall
      have hnm := evAll_names hs hf0 hall
      obtain ⟨vs, e1, e2, e3⟩ : ∃ vs : List Value, a.eval fop = .func (.func f) #[] vs.toArray ∧ vs.length = caps.length ∧ ∀ (i b o : Nat), caps[i]? = some (b, o) → ∃ x : Value, vs[i]? = some x ∧ RelPtr β s b o x := by
        obtain ⟨hr1, hr2⟩ := hv1
        have hr2 : (a.eval fop).oneCell' = true := hr2
        rw [cells_one hr2] at hr1
        exact hr1.1
      have hnb : fn.body.isNone = false := by cases hb : fn.body <;> simp_all
      have hex : (execOp a.eval o).run P w = .ok (.enter f (cargs.map a.eval ++ vs.toArray)) w := by
        simp only [beq_eq_false_iff_ne, ne_eq] at hname
        simp [execOp, hop, resolve, Deferred.ofValue, e1, invoke, callFunc, hfn, hname, hnb]
        intro hbn; rw [hbn] at hbody; cases hbody
      have subst0 : Sub s ({ s with st := id + cntOf P o } : St0 E N) := Sub.of_same (fun _ => rfl) (fun _ => rfl)
      have hcall := hInl f _ _ _ r h n0 β σ w (cargs.toList.map a.eval ++ vs) hs.n0le (subst0.mem hs.M) (fun n hn => ⟨fun q e he => (hf n (by have : id + cntOf P o ≤ n := hn; omega)).b q e he, fun q e he => (hf n (by have : id + cntOf P o ≤ n := hn; omega)).h q e he⟩)
        (fun x hx n hn => by
          rcases Nat.lt_or_ge n (id + cntOf P o) with h | h
          · exact h
          · have hfn := hf n (by omega)
            rcases List.mem_append.1 hx with hx | hx
            · exact (hnm x hx n hfn hn).elim
            · obtain ⟨p, hp, rfl⟩ := List.mem_map.1 hx
              refine (hvn n hfn ?_).elim
              have : n = p.1 := by simpa [AV.names, one, namesCs, AC.names] using hn
              simp only [AV.names, namesCs, AC.names, List.append_nil]
              exact List.mem_map.2 ⟨p, hp, this.symm⟩)
        (by
          exact (subst0.ext P (fun _ => False) β σ w).relArgs (RelArgs.append hargs (caps_rel (n0 := n0) (P := P) (σ := σ) (w := w) e2 e3)))
      unfold wpOp
      simp only [hget, hw, if_true]
      refine .inl ?_
      unfold Oper.wp
      rw [hex]
      have harr : (cargs.toList.map a.eval ++ vs).toArray = cargs.map a.eval ++ vs.toArray := by apply Array.ext'; simp
      rw [harr] at hcall
      refine Calls.mono hcall (fun e w' hp => ?_)
      cases e with
      | panicked ch => exact hp.elim
      | outgrown => exact hp.elim
      | returned v =>
        obtain ⟨av, s2, β', σ', hk, htm, hst, hm, hx, hcb, hch, hrel, hfr⟩ := hp
        have hst' : id + cntOf P o ≤ s2.st := hst
        have x0 : Ext P (fun n => id ≤ n) β σ s w β' σ' s2 w' := ((subst0.ext P (fun _ => False) β σ w).trans hx).weaken (fun n h => h.elim (fun h => h.elim) (fun h => by have : id + cntOf P o ≤ n := h; omega))
        have hnew : ∀ n, id ≤ n → Fresh a s n := hf
        have gT2 : ∀ n, s2.getT n = s.getT n := fun n => by unfold State.getT; rw [show s2.tm = s.tm from htm]
        rw [← hlen]
        have tail : ∀ (s3 : St0 E N) (a3 : Act), runOps (O := std E N) P cfg inl ops.toList false rest s2.st s3 (ms ++ [(0, 0)]) k = some r → Post P n0 nt id (fun n => o.dst = some n) β σ s a w β' σ' s3 a3 w' → GI s3 (o.dst.toList ++ dstList pre) → (∀ n, s2.st ≤ n → Fresh a3 s3 n) →
            wpOps P ops Q (List.range' (pre ++ [o]).length rest.length) a3 w' := fun s3 a3 hk3 hp3 hg3 hf3 => by
          refine runOps_seq inl hInl hΓ (by rw [hdl]; exact hnd) hg hdn rest (pre ++ [o]) s2.st s3 (ms ++ [(0, 0)]) k β' σ' a3 w' hpre2 hk3 hp3.sim (hgi2 hg3) hf3 (fun s' ms' id' β'' σ'' a'' w'' hkk hpp hle hf' hg' => ?_)
          have hpt := hp3.trans hpp (by omega)
          refine hQ s' ms' id' β'' σ'' a'' w'' hkk ⟨hpt.sim, hpt.ext, hpt.cleanB, hpt.cleanH, hpt.defers, fun n hn => hpt.tmps n (fun h => hn ?_)⟩ (by omega) hf' hg'
          simp only [dstList]
          rcases h with h | h
          · rw [h]; simp
          · cases o.dst with
            | none => exact h
            | some d => exact List.mem_cons_of_mem _ h
        cases hd : o.dst with
        | none =>
          rw [hd] at hk tail
          refine tail s2 a hk ⟨⟨Nat.le_trans hs.n0le x0.size, hs.size, fun n tv hn => ?_, hm⟩, x0, hcb, hch, rfl, fun _ _ => rfl⟩ (fun n tv hn => gi n tv (by rw [← gT2]; exact hn)) (fun n hn => ⟨fun q tv hq hg => ?_, (hfr n hn).1.1, (hfr n hn).1.2⟩)
          · rw [gT2] at hn
            rcases hs.T n tv hn with ⟨h1, h2⟩ | ⟨h1, h2⟩
            · exact .inl ⟨h1, x0.relAV (fun q hq hnw => (hnew q hnw).t n tv hn h1 hq) h2⟩
            · exact .inr ⟨h1, h2⟩
          · rw [gT2] at hq; exact (hf n (by omega)).t q tv hq hg
        | some d =>
          rw [hd] at hk tail
          have hdd := hdst d hd
          have gT3 : ∀ n, ({ s2 with tm := setTM s2.tm d (some ⟨[], av⟩) } : St0 E N).getT n = if n = d ∧ d < tmMax then some ⟨[], av⟩ else s.getT n := fun n => by
            unfold State.getT
            rw [← show s2.tm = s.tm from htm]
            exact getTM_setTM _ _ _ _
          refine tail { s2 with tm := setTM s2.tm d (some ⟨[], av⟩) } (a.put (some d) v) hk ⟨sim_dst hs gi hdd.1 hdd.2 hnew htm x0 hm hrel, ?_, hcb, hch, rfl, fun n hn => getD_put_ne (fun e => hn (by rw [e]))⟩ (fun n tv hn g hg => ?_) (fun n hn => ⟨fun q tv hq hg => ?_, (hfr n hn).1.1, (hfr n hn).1.2⟩)
          · exact (x0.trans ((Sub.of_same (s := s2) (s' := { s2 with tm := setTM s2.tm d (some ⟨[], av⟩) }) (fun _ => rfl) (fun _ => rfl)).ext P (fun _ => False) β' σ' w')).weaken (fun n h => h.elim (fun h => h) (fun h => h.elim))
          · rw [gT3] at hn
            split at hn
            · cases hn; simp at hg
            · exact List.mem_append_right _ (gi n tv hn g hg)
          · rw [gT3] at hq
            split at hq
            · cases hq; exact (hfr n hn).2
            · rename_i hne
              exact (hf n (by omega)).t q tv hq ((facts_put (d := d) (v := v) (fun g hg2 e => hdd.1 (by have := gi q tv hq g hg2; rw [e] at this; exact this))).1 hg)

end
end Go.Px
