/-
Px: functions that are entered in place.
-/
import Derived.Test.YtopmcbahdgfleaaGreatPxCode
namespace Go.Px
set_option linter.unusedVariables false
set_option linter.unusedSimpArgs false

theorem dstsIn_mono {n m : Nat} (h : n ≤ m) : ∀ {l : List Oper}, dstsIn n l = true → dstsIn m l = true
  | [], _ => rfl
  | o :: l, hl => by
    simp only [dstsIn, Bool.and_eq_true] at hl ⊢
    refine ⟨?_, dstsIn_mono h hl.2⟩
    cases hd : o.dst with
    | none => rfl
    | some d =>
      rw [hd] at hl
      have := natBlt_iff.1 hl.1
      exact natBlt_iff.2 (by omega)

theorem tmpsOk_mono {n m : Nat} (h : n ≤ m) : ∀ {c : Code}, tmpsOk n c = true → tmpsOk m c = true := by
  intro c
  induction c with
  | region id ops draw => exact dstsIn_mono h
  | seq x y ihx ihy => intro hc; simp only [tmpsOk, Bool.and_eq_true] at hc ⊢; exact ⟨ihx hc.1, ihy hc.2⟩
  | cond c x y ihx ihy => intro hc; simp only [tmpsOk, Bool.and_eq_true] at hc ⊢; exact ⟨ihx hc.1, ihy hc.2⟩
  | block id x ih => exact ih
  | loop x ih => exact ih
  | _ => exact fun _ => rfl

section
variable {E : Env} {N : Nat} {P : Program} {cfg : Cfg} {n0 n0' : Nz} {nt : Nat} {β β' : Nat → Option Nat} {σ σ' : Nat → Option (Nat × Nat)} {s s' s2 : St0 E N} {a a' : Act} {w w' : World}

/-! ### Results -/

def resultF (tmps : Array Value) : ResultVar → Sem Value
  | .tmp t => pure (tmps.getD t undef)
  | .cell a t => do loadVar t (← asAddr (tmps.getD a undef))

theorem val_of_T (hs : Sim P n0 nt β σ s a w) {n : Nat} {v : AV (std E N)} (h : s.getT n = some ⟨[], v⟩) : RelAV P n0 β σ s w v (a.tmps.getD n undef) := by
  rcases hs.T n _ h with ⟨_, h1⟩ | ⟨h1, _⟩
  · exact h1
  · exact (h1 (fun n b hm => by simp at hm)).elim

theorem resVal_ok (hs : Sim P n0 nt β σ s a w) {rv : ResultVar} {v : Val (std E N)} (h : resVal P s rv = some v) : (∃ z, (resultF a.tmps rv).run P w = .ok z w ∧ RelVal P n0 β σ s w v z) ∧ ∀ n, (FreshM s n ∧ ∀ k tv, s.getT k = some tv → n ∉ tv.v.names) → n ∉ namesCs v.cs := by
  unfold resVal at h
  split at h
  · rename_i t
    split at h
    · rename_i y hy
      cases h
      exact ⟨⟨_, rfl, val_of_T hs hy⟩, fun n hf => hf.2 t _ hy⟩
    · cases h
  · rename_i t T
    split at h
    · rename_i b off hb
      split at h
      · rename_i e he
        split at h
        · rename_i cs hcs
          split at h
          · rename_i hag
            cases h
            have h1 : RelVal P n0 β σ s w (⟨false, [.ptr b off]⟩ : Val (std E N)) (a.tmps.getD t undef) := val_of_T hs hb
            obtain ⟨h2, h3⟩ := h1
            have h3 : (a.tmps.getD t undef).oneCell' = true := h3
            rw [cells_one h3] at h2
            have hp : RelPtr β s b off (a.tmps.getD t undef) := h2.1
            obtain ⟨blk, cells, el, hv, hβ, hheap, hrel⟩ := reads_box hs.M he hp
            obtain ⟨e1, e2⟩ := sliceOf_eq hcs
            have hrr := RelCs.take (P.cellsOf T) (RelCs.drop off hrel)
            rw [← e1] at hrr
            obtain ⟨x, hx, hrx⟩ := run_loadVar_cells hrr hag ((RelCs.length hrr).symm.trans e2) (fun j x hj => drop_take_cell hheap off _ j x hj)
            refine ⟨⟨x, ?_, hrx⟩, fun n hf hm => (hf.1.1 b e he).2 (namesCs_sliceOf hcs hm)⟩
            simp only [resultF, hv, Sem.run_bind]
            simp [asAddr, hx]
          · cases h
        · cases h
      · cases h
    · cases h

theorem resVals_ok (hs : Sim P n0 nt β σ s a w) : ∀ {rv : List ResultVar} {vs : List (Val (std E N))}, resVals P s rv = some vs → (∃ zs, (rv.mapM (resultF a.tmps)).run P w = .ok zs w ∧ RelVals P n0 β σ s w vs zs) ∧ ∀ n, (FreshM s n ∧ ∀ k tv, s.getT k = some tv → n ∉ tv.v.names) → n ∉ namesVals vs
  | [], vs, h => by
    simp only [resVals] at h; cases h
    exact ⟨⟨[], by simp [List.mapM_nil], trivial⟩, fun n _ => by simp [namesVals]⟩
  | r :: rv, vs, h => by
    simp only [resVals] at h
    split at h
    · rename_i v l hv hl
      cases h
      obtain ⟨⟨z, h1, h2⟩, h3⟩ := resVal_ok hs hv
      obtain ⟨⟨zs, h4, h5⟩, h6⟩ := resVals_ok hs hl
      refine ⟨⟨z :: zs, ?_, h2, h5⟩, fun n hf hm => ?_⟩
      · simp [List.mapM_cons, Sem.run_bind, h1, h4]
      · simp only [namesVals, List.mem_append] at hm
        exact hm.elim (h3 n hf) (h6 n hf)
    · cases h

def tupOf : List Value → Value
  | [x] => x
  | zs => .tuple zs.toArray

theorem results_ok (hs : Sim P n0 nt β σ s a w) {fn : Func} {vs : List (Val (std E N))} (h : resVals P s fn.results.toList = some vs) : ∃ z zs, (results fn a.tmps).run P w = .ok z w ∧ RelVals P n0 β σ s w vs zs ∧ z = tupOf zs := by
  obtain ⟨⟨zs, h1, h2⟩, _⟩ := resVals_ok hs h
  have : (results fn a.tmps).run P w = .ok (if h : zs.toArray.size = 1 then zs.toArray[0] else .tuple zs.toArray) w := by
    have e : results fn a.tmps = (do let vs ← fn.results.mapM (resultF a.tmps); pure (if h : vs.size = 1 then vs[0] else .tuple vs)) := by
      unfold results
      congr 1
    rw [e, Array.mapM_eq_mapM_toList, map_eq_pure_bind]
    simp only [Sem.run_bind, h1, Result.andThen_ok, Sem.run_pure]
  refine ⟨_, zs, this, h2, ?_⟩
  match zs with
  | [] => simp [tupOf]
  | [x] => simp [tupOf]
  | x :: y :: r => simp [tupOf]

theorem relAV_of {vs : List (Val (std E N))} {zs : List Value} {z : Value} (h : RelVals P n0 β σ s w vs zs) (hz : z = tupOf zs) : RelAV P n0 β σ s w (avOf vs) z := by
  subst hz
  match vs, zs, h with
  | [], [], h => exact ⟨#[], rfl, trivial⟩
  | [v], [x], h => exact h.1
  | v :: v2 :: vs, x :: y :: zs, h => exact ⟨_, rfl, h⟩
  | [_], x :: y :: zs, h => exact h.2.elim
  | _ :: _ :: _, [_], h => exact h.2.elim

theorem names_avOf' {vs : List (Val (std E N))} {n : Nat} (h : n ∉ namesVals vs) : n ∉ (avOf vs).names := by
  match vs, h with
  | [], h => exact h
  | [v], h => intro hm; exact h (by simp only [namesVals, List.append_nil]; exact hm)
  | v :: v2 :: vs, h => exact h

/-! ### Parameters -/

theorem paramTM_get : ∀ {args : List (AV (std E N))} {i : Nat} {t : TM (TV (std E N))} {n : Nat} {tv : TV (std E N)}, getTM (paramTM i args t) n = some tv → getTM t n = some tv ∨ (i ≤ n ∧ ∃ v, args[n - i]? = some v ∧ tv = ⟨[], v⟩)
  | [], i, t, n, tv, h => .inl h
  | v :: args, i, t, n, tv, h => by
    simp only [paramTM] at h
    rcases paramTM_get h with h | ⟨h1, u, h2, h3⟩
    · rw [getTM_setTM] at h
      split at h
      · rename_i hn
        cases h
        exact .inr ⟨by omega, v, by rw [hn.1]; simp, rfl⟩
      · exact .inl h
    · refine .inr ⟨by omega, u, ?_, h3⟩
      rw [show n - i = (n - (i + 1)) + 1 by omega]; simpa using h2

theorem RelArgs.len : ∀ {xs : List (AV (std E N))} {vs : List Value}, RelArgs P n0 β σ s w xs vs → xs.length = vs.length
  | [], [], _ => rfl
  | _ :: _, _ :: _, h => by simp [RelArgs.len h.2]
  | [], _ :: _, h => h.elim
  | _ :: _, [], h => h.elim
theorem RelArgs.get : ∀ {xs : List (AV (std E N))} {vs : List Value}, RelArgs P n0 β σ s w xs vs → ∀ {i : Nat} {x : AV (std E N)}, xs[i]? = some x → ∃ v, vs[i]? = some v ∧ RelAV P n0 β σ s w x v
  | [], [], _, i, x, h => by simp at h
  | y :: xs, v :: vs, h, i, x, hx => by
    cases i with
    | zero => simp at hx; subst hx; exact ⟨v, rfl, h.1⟩
    | succ i => obtain ⟨u, h1, h2⟩ := RelArgs.get h.2 (i := i) (by simpa using hx); exact ⟨u, by simpa using h1, h2⟩
  | [], _ :: _, h, _, _, _ => h.elim
  | _ :: _, [], h, _, _, _ => h.elim

/-- A function's act at its beginning. -/
def act0 (nt : Nat) (vals : List Value) : Act := { tmps := vals.toArray ++ Array.replicate (nt - vals.toArray.size) undef, defers := [] }

theorem act0_size {nt : Nat} {vals : List Value} : nt ≤ (act0 nt vals).tmps.size := by
  simp [act0]; omega

theorem sim0 (hn0 : n0.n ≤ w.heap.size) (m : Mem P n0 β σ s w) {args : List (AV (std E N))} {vals : List Value} (hr : RelArgs P n0 β σ s w args vals) {nt : Nat} :
    Sim P n0 (act0 nt vals).tmps.size β σ { s with tm := paramTM 0 args .e } (act0 nt vals) w := by
  have sub : Sub s ({ s with tm := paramTM 0 args .e } : St0 E N) := Sub.of_same (fun _ => rfl) (fun _ => rfl)
  refine ⟨hn0, rfl, fun n tv hn => ?_, sub.mem m⟩
  have hn : getTM (paramTM 0 args .e) n = some tv := hn
  rcases paramTM_get hn with h | ⟨_, v, h1, h2⟩
  · rw [getTM_e] at h; cases h
  · subst h2
    rw [Nat.sub_zero] at h1
    obtain ⟨z, h3, h4⟩ := hr.get h1
    refine .inl ⟨fun n b hm => by simp at hm, ?_⟩
    have : (act0 nt vals).tmps.getD n undef = z := by
      obtain ⟨hlt, hz⟩ := List.getElem?_eq_some_iff.1 h3
      simp only [act0, Array.getD_eq_getD_getElem?]
      rw [Array.getElem?_append_left (by simpa using hlt)]
      simp [h3]
    rw [this]
    exact (sub.ext P (fun _ => False) β σ w).relAV (fun _ _ h => h) h4

theorem wf0 (hf : ∀ n, s.st ≤ n → FreshM s n) {args : List (AV (std E N))} (ha : ∀ x ∈ args, ∀ n ∈ x.names, n < s.st) : WF ({ s with tm := paramTM 0 args .e } : St0 E N) := by
  have get : ∀ (k : Nat) (tv : TV (std E N)), ({ s with tm := paramTM 0 args .e } : St0 E N).getT k = some tv → ∃ v ∈ args, tv = ⟨[], v⟩ := fun k tv hk => by
    have hk : getTM (paramTM 0 args .e) k = some tv := hk
    rcases paramTM_get hk with h | ⟨_, v, h1, h2⟩
    · rw [getTM_e] at h; cases h
    · exact ⟨v, List.mem_of_getElem? h1, h2⟩
  refine ⟨fun n hn => ⟨hf n hn, fun k tv hk hm => ?_⟩, fun n tv hn => ?_⟩
  · obtain ⟨v, h1, h2⟩ := get k tv hk
    subst h2
    have := ha v h1 n hm
    have hn : s.st ≤ n := hn
    omega
  · obtain ⟨v, h1, h2⟩ := get n tv hn
    rw [h2]

/-! ### Rows of results -/

theorem RelCs.app : ∀ {xs ys : List (AC0 E N)} {us vs : List Value}, RelCs P n0 β σ s w xs us → RelCs P n0 β σ s w ys vs → RelCs P n0 β σ s w (xs ++ ys) (us ++ vs)
  | [], _, [], _, _, h => h
  | x :: xs, _, u :: us, _, h, h' => ⟨h.1, RelCs.app h.2 h'⟩
  | [], _, _ :: _, _, h, _ => h.elim
  | _ :: _, _, [], _, h, _ => h.elim

theorem RelVals.flat : ∀ {vs : List (Val (std E N))} {zs : List Value}, RelVals P n0 β σ s w vs zs → RelCs P n0 β σ s w ((vs.map (·.cs)).flatten) ((zs.map fun z => z.cells.toList).flatten)
  | [], [], _ => trivial
  | v :: vs, z :: zs, h => RelCs.app h.1.1 (RelVals.flat h.2)
  | [], _ :: _, h => h.elim
  | _ :: _, [], h => h.elim

theorem rowKind1_len : ∀ {ts : List TypeId} {cs : List (AC0 E N)}, rowKind1 P ts cs = true → cs.length = ts.length
  | [], [], _ => rfl
  | t :: ts, c :: cs, h => by
    simp only [rowKind1] at h
    split at h
    · simp [rowKind1_len h]
    · cases h
  | [], _ :: _, h => by simp [rowKind1] at h
  | _ :: _, [], h => by simp [rowKind1] at h

theorem splitVals_ok {S : St0 E N} {β2 : Nat → Option Nat} {σ2 : Nat → Option (Nat × Nat)} : ∀ {ts : List TypeId} {vs : List (Val (std E N))} {zs : List Value} {xs : List (AC0 E N)} {vs' : List (Val (std E N))}, resOk P ts vs = true → RelVals P n0 β σ s w vs zs →
    RelCs P n0 β2 σ2 S w xs ((zs.map fun z => z.cells.toList).flatten) → splitVals P ts xs = some vs' → RelVals P n0 β2 σ2 S w vs' zs ∧ ∀ n ∈ namesVals vs', n ∈ namesCs xs
  | [], [], [], xs, vs', _, _, _, h => by
    simp only [splitVals] at h; cases h
    exact ⟨trivial, fun n hn => by simp [namesVals] at hn⟩
  | t :: ts, v :: vs, z :: zs, xs, vs', hr, hv, hx, h => by
    simp only [resOk, Bool.and_eq_true] at hr
    simp only [splitVals] at h
    cases hl : tysOf P t with
    | none => rw [hl] at h; cases h
    | some l =>
      rw [hl] at h hr
      simp only [Bool.and_eq_true, beq_iff_eq] at h hr
      split at h
      · cases h
      rename_i r hrest
      cases h
      have hlen : z.cells.toList.length = l.length := by rw [← RelCs.length hv.1.1]; exact rowKind1_len hr.1.2
      have hx' : RelCs P n0 β2 σ2 S w xs (z.cells.toList ++ (zs.map fun z => z.cells.toList).flatten) := hx
      have h1 := RelCs.take l.length hx'
      have h2 := RelCs.drop l.length hx'
      rw [← hlen, List.take_left] at h1
      rw [← hlen, List.drop_left] at h2
      rw [hlen] at h1 h2
      obtain ⟨h3, h4⟩ := splitVals_ok hr.2 hv.2 h2 hrest
      refine ⟨⟨⟨h1, ?_⟩, h3⟩, fun n hn => ?_⟩
      · have := hv.1.2
        rw [hr.1.1] at this
        exact this
      · simp only [namesVals, List.mem_append] at hn
        rcases hn with hn | hn
        · obtain ⟨c, hc, hm⟩ := namesCs_sub.1 hn
          exact namesCs_sub.2 ⟨c, List.mem_of_mem_take hc, hm⟩
        · obtain ⟨c, hc, hm⟩ := namesCs_sub.1 (h4 n hn)
          exact namesCs_sub.2 ⟨c, List.mem_of_mem_drop hc, hm⟩
  | [], _ :: _, _, _, _, hr, _, _, _ => by simp [resOk] at hr
  | _ :: _, [], _, _, _, hr, _, _, _ => by simp [resOk] at hr
  | _, [], _ :: _, _, _, _, hv, _, _ => hv.elim
  | _, _ :: _, [], _, _, _, hv, _, _ => hv.elim

theorem decSlots_tm : ∀ {sl : List Slot} (cv : List PV) (j q : Nat) (u : St0 E N) (t : TM (TV (std E N))), (∀ x ∈ sl, ∃ b c, x = Slot.b b c) → decSlots (O := std E N) cv j q sl { u with tm := t } = { decSlots (O := std E N) cv j q sl u with tm := t }
  | [], cv, j, q, u, t, _ => rfl
  | x :: sl, cv, j, q, u, t, h => by
    obtain ⟨b, c, rfl⟩ := h x List.mem_cons_self
    rw [decSlots_b, decSlots_b]
    exact decSlots_tm cv _ _ { u with bx := alSet u.bx b (some { cs := (DecCs E N cv j q c).1, dirty := true }), hp := (DecCs E N cv j q c).2 ++ u.hp } t (fun y hy => h y (List.mem_cons_of_mem _ hy))
theorem decSlots_keepT : ∀ {sl : List Slot} (cv : List PV) (j q : Nat) (u : St0 E N), (∀ x ∈ sl, ∃ b c, x = Slot.b b c) → (decSlots (O := std E N) cv j q sl u).tm = u.tm
  | [], cv, j, q, u, _ => rfl
  | x :: sl, cv, j, q, u, h => by
    obtain ⟨b, c, rfl⟩ := h x List.mem_cons_self
    rw [decSlots_b]
    exact decSlots_keepT cv _ _ _ (fun y hy => h y (List.mem_cons_of_mem _ hy))

theorem inline_ok {R : Run E N} (hR : CodeOK P R) : InlOK P (inlineX (O := std E N) P cfg R) := by
  intro f args s k r h n0 β σ w vals hn0 m hf ha hr
  unfold inlineX at h
  cases hfn : P.funcs[f]? with
  | none => rw [hfn] at h; cases h
  | some fn =>
    rw [hfn] at h
    simp only at h
    cases hb : fn.body with
    | none => rw [hb] at h; cases h
    | some body =>
      rw [hb] at h
      simp only at h
      split at h
      · cases h
      rename_i htm
      have htm' := tmpsOk_mono (act0_size (nt := fn.ntmps) (vals := vals)) htm
      refine calls_of_wp hfn hb ?_
      have hs1 := sim0 (nt := fn.ntmps) hn0 m hr
      have wf1 := wf0 hf ha
      have subT : ∀ (u : St0 E N) (t : TM (TV (std E N))), Sub u ({ u with tm := t } : St0 E N) := fun u t => Sub.of_same (fun _ => rfl) (fun _ => rfl)
      have subs1 : Sub s ({ s with tm := paramTM 0 args .e } : St0 E N) := subT _ _
      split at h
      · refine hR n0 _ body htm' _ _ _ _ r β σ (act0 fn.ntmps vals) w _ h hs1 wf1 (fun ex s' β' σ' a' w' hk mx hmx hp wf' hle => ?_)
        split at hk
        case h_2 => cases hk
        rename_i vs hex hvs
        obtain ⟨z, zs, h1, h2, h3⟩ := results_ok hp.sim hvs
        obtain ⟨_, h4⟩ := resVals_ok hp.sim hvs
        have sub2 : Sub s' ({ s' with tm := s.tm } : St0 E N) := subT _ _
        have hfin : ∃ (av : AV (std E N)) (s'' : St0 E N) (β'' : Nat → Option Nat) (σ'' : Nat → Option (Nat × Nat)), k av s'' = some r ∧ s''.tm = s.tm ∧ s.st ≤ s''.st ∧ Mem P n0 β'' σ'' s'' w' ∧ Ext P (fun n => s.st ≤ n) β σ s w β'' σ'' s'' w' ∧
          (∀ n e, s''.getB n = some e → e.dirty = false → s.getB n = some e) ∧ (∀ n e, s''.getH n = some e → e.dirty = false → s.getH n = some e) ∧
          RelAV P n0 β'' σ'' s'' w' av z ∧ ∀ n, s''.st ≤ n → FreshM s'' n ∧ n ∉ av.names := by
          refine ⟨avOf vs, _, β', σ', hk, rfl, hle, sub2.mem hp.sim.M, (((subs1.ext P (fun _ => False) β σ w).trans hp.ext).trans (sub2.ext P (fun _ => False) β' σ' w')).weaken (fun n h => ?_), hp.cleanB, hp.cleanH, (sub2.ext P (fun _ => False) β' σ' w').relAV (fun _ _ h => h) (relAV_of h2 h3), fun n hn => ?_⟩
          · rcases h with (h | h) | h
            · exact h.elim
            · exact h
            · exact h.elim
          · have := wf'.fresh n hn
            exact ⟨this.1, names_avOf' (h4 n this)⟩
        have hdef : a'.defers = [] := hp.defers
        cases ex with
        | nrm => exact ⟨hdef, z, h1, hfin⟩
        | ret => exact ⟨hdef, z, h1, hfin⟩
        | ext id => simp [isExt] at hex
      · split at h
        case h_2 => cases h
        rename_i sl rs hsl hrs
        obtain ⟨c0, h1, h2⟩ := Option.bind_eq_some_iff.1 h
        split at h2
        · cases h2
        rename_i vs' hvs'
        have hvs' : splitVals P fn.resultTypes.toList (DecCs E N c0 0 s.st rs).1 = some vs' := hvs'
        generalize hm : bothMs (an P body) = mm at *
        unfold bothMs at hm
        have hmm : ∀ ex mx, isExt ex = false → (an P body).at ex = some mx → mx.le mm := fun ex mx he hx => by
          cases ex with
          | nrm =>
            obtain ⟨m2, q1, q2⟩ := Wide.orL (p := (an P body).ret) ⟨mx, hx, Ms.le_refl _⟩
            have q1 : orMs (an P body).nrm (an P body).ret = some m2 := q1
            rw [q1] at hm; subst hm; exact q2
          | ret =>
            obtain ⟨m2, q1, q2⟩ := Wide.orR (o := (an P body).nrm) ⟨mx, hx, Ms.le_refl _⟩
            have q1 : orMs (an P body).nrm (an P body).ret = some m2 := q1
            rw [q1] at hm; subst hm; exact q2
          | ext id => simp [isExt] at he
        refine hR n0 _ body htm' _ _ _ _ c0 β σ (act0 fn.ntmps vals) w _ h1 hs1.cleaned wf1.cleaned (fun ex s' β' σ' a' w' hk mx hmx hp wf' hle => ?_)
        split at hk
        · cases hk
        · cases hk
        rename_i vs hex hvs
        split at hk
        case h_2 => cases hk
        case h_3 => cases hk
        rename_i ls used hck hchk henc1
        split at hk
        case h_2 => cases hk
        rename_i more henc2
        simp only [Bool.and_eq_true] at hck
        obtain ⟨hres, hcB⟩ := hck
        have hc0 : c0 = (ls ++ more).map Leaf.pv := (Option.some.inj hk).symm
        have hsi := Post.since (s := { s with tm := paramTM 0 args .e }) (hp.wide (fun n => (hmm ex mx hex hmx n).1))
        obtain ⟨z, zs, r1, r2, r3⟩ := results_ok hp.sim hvs
        obtain ⟨hslm, hslb⟩ := boxSlots_mem hsl
        have hj := join (s := s') (a := a') (w := w') (L := s.st) (base := { s with tm := .e, bx := keepB s (touched ({ s with tm := paramTM 0 args .e } : St0 E N) mm), hp := keepH s (lostH ({ s with tm := paramTM 0 args .e } : St0 E N) mm) }) hp.sim
          (fun n tv hn => by
            have hn : getTM (.e : TM (TV (std E N))) n = some tv := hn
            rw [getTM_e] at hn; cases hn)
          (fun n e he => by
            have he' : alGet (keepB s _) n = some e := he
            obtain ⟨g1, g2⟩ := keepB_get.1 he'
            obtain ⟨e', g3, g4⟩ := checkB_get hcB he'
            exact ⟨Nat.lt_of_not_le (fun hle => ((hf n hle).1 n e g1).1 rfl), ⟨e', g3, hsi.B n e e' g1 g2 g3 g4⟩, fun k hk => Nat.lt_of_not_le (fun hle => ((hf k hle).1 n e g1).2 hk)⟩)
          (fun n e he => by
            have he' : alGet (keepH s _) n = some e := he
            obtain ⟨g1, g2⟩ := keepH_get.1 he'
            obtain ⟨e', g3, g4⟩ := checkH_get hchk he'
            exact ⟨Nat.lt_of_not_le (fun hle => (hf n hle).2 n e g1 rfl), e', g3, hsi.H n e e' g1 g2 g3 g4⟩)
          (rs := rs) (cs := (vs.map (·.cs)).flatten) r2.flat (sl := sl) (fun b c hm => by
            obtain ⟨_, e, he⟩ := hslm b c hm
            exact Nat.lt_of_not_le (fun hle => ((hf b hle).1 b e he).1 rfl))
          henc1 henc2 (cv := c0) (j := 0) (by rw [hc0]; exact holds_map (pre := []))
        obtain ⟨σ2, S, hS, j1, j2, j3⟩ := hj
        obtain ⟨s1, s2⟩ := splitVals_ok hres r2 j1 hvs'
        have hSt : decSlots (O := std E N) c0 rs.length (s.st + (DecCs E N c0 0 s.st rs).2.length) sl { s with bx := keepB s (touched ({ s with tm := paramTM 0 args .e } : St0 E N) mm), hp := (DecCs E N c0 0 s.st rs).2 ++ keepH s (lostH ({ s with tm := paramTM 0 args .e } : St0 E N) mm) } = { S with tm := s.tm } := by
          rw [hS, Nat.zero_add]
          exact decSlots_tm c0 rs.length (s.st + (DecCs E N c0 0 s.st rs).2.length) { s with tm := .e, bx := keepB s (touched ({ s with tm := paramTM 0 args .e } : St0 E N) mm), hp := (DecCs E N c0 0 s.st rs).2 ++ keepH s (lostH ({ s with tm := paramTM 0 args .e } : St0 E N) mm) } s.tm hslb
        have hk2 : k (avOf vs') { S with tm := s.tm } = some r := by rw [← hSt]; exact h2
        have sub2 : Sub S ({ S with tm := s.tm } : St0 E N) := subT _ _
        have hfin : ∃ (av : AV (std E N)) (s'' : St0 E N) (β'' : Nat → Option Nat) (σ'' : Nat → Option (Nat × Nat)), k av s'' = some r ∧ s''.tm = s.tm ∧ s.st ≤ s''.st ∧ Mem P n0 β'' σ'' s'' w' ∧ Ext P (fun n => s.st ≤ n) β σ s w β'' σ'' s'' w' ∧
          (∀ n e, s''.getB n = some e → e.dirty = false → s.getB n = some e) ∧ (∀ n e, s''.getH n = some e → e.dirty = false → s.getH n = some e) ∧
          RelAV P n0 β'' σ'' s'' w' av z ∧ ∀ n, s''.st ≤ n → FreshM s'' n ∧ n ∉ av.names := by
          refine ⟨avOf vs', _, β', σ2, hk2, rfl, j3.st, sub2.mem j3.sim.M, ((((subs1.ext P (fun _ => False) β σ w).trans hsi.ext).trans j3.ext).trans (sub2.ext P (fun _ => False) β' σ2 w')).weaken (fun n h => ?_), fun n e he hd => ?_, fun n e he hd => ?_, (sub2.ext P (fun _ => False) β' σ2 w').relAV (fun _ _ h => h) (relAV_of s1 r3), fun n hn => ?_⟩
          · rcases h with ((h | h) | h) | h
            · exact h.elim
            · exact h
            · exact h
            · exact h.elim
          · have he' : alGet (keepB s _) n = some e := j3.cleanB n e he hd
            exact (keepB_get.1 he').1
          · have he' : alGet (keepH s _) n = some e := j3.cleanH n e he hd
            exact (keepH_get.1 he').1
          · exact ⟨(j3.wf.fresh n hn).1, names_avOf' (fun hm => by
              have hn : S.st ≤ n := hn
              have := j2 n (s2 n hm); omega)⟩
        have hdef : a'.defers = [] := hp.defers
        cases ex with
        | nrm => exact ⟨hdef, z, r1, hfin⟩
        | ret => exact ⟨hdef, z, r1, hfin⟩
        | ext id => simp [isExt] at hex

theorem XL_ok (hmix : P.follows .mixedOrders = true) (hΓ : ∀ ci ∈ cfg.gam, Valid P E N ci ∧ Valid P E N { ci with own := false }) : ∀ n, CodeOK P (XL (O := std E N) P cfg n : Run E N)
  | 0 => fun n0 nt c _ light lv s k r β σ a w Q h => by cases h
  | n + 1 => X_ok hmix _ (inline_ok (XL_ok hmix hΓ n)) hΓ

end
end Go.Px
