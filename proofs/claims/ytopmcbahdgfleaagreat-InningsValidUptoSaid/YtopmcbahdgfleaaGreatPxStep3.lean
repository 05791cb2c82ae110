/-
Px: one operation of a region that calls a function by its contract.
-/
import Derived.Test.YtopmcbahdgfleaaGreatPxStep2
namespace Go.Px
set_option linter.unusedVariables false
set_option linter.unusedSimpArgs false

section
variable {E : Env} {N : Nat} {P : Program} {cfg : Cfg} {n0 n0' : Nz} {nt : Nat} {β β' : Nat → Option Nat} {σ σ' : Nat → Option (Nat × Nat)} {s s' : St0 E N} {a : Act} {w w' : World}

theorem evAll_ok (hs : Sim P n0 nt β σ s a w) {ctx : List (Nat × Bool)} (hf : Facts a ctx) : ∀ {ts : List TypeId} {xs : List Operand} {vs : List (AV (std E N))} {m m' : Nat}, RM.run s (evAll (O := std E N) P ctx ts xs) m = .ok (vs, m') →
    RelArgs P n0 β σ s w vs (xs.map a.eval)
  | [], [], vs, m, m', h => by cases RM.ret_ok h; trivial
  | t :: ts, x :: xs, vs, m, m', h => by
    obtain ⟨v, m1, h1, h2⟩ := RM.bind_ok h
    obtain ⟨r, m2, h3, h4⟩ := RM.bind_ok h2
    cases RM.ret_ok h4
    exact ⟨(ev_ok hs hf h1).1, evAll_ok hs hf h3⟩
  | [], _ :: _, _, _, _, h => (RM.fail_ok h).elim
  | _ :: _, [], _, _, _, h => (RM.fail_ok h).elim

theorem toLf_fr {c : AC0 E N} {l : SLeaf} {fr : List (Nat × Option (HEnt (std E N)))} {nw : Bool} {k k' : Nat} (h : RM.run s (toLf (O := std E N) c) k = .ok ((l, fr, nw), k')) : FrOK s fr := by
  have nil : FrOK s ([] : List (Nat × Option (HEnt (std E N)))) := fun _ _ hm => by simp at hm
  cases c with
  | own e id =>
    obtain ⟨k1, h⟩ := RM.h_ok h
    cases hh : s.getH id with
    | none => rw [hh] at h; exact (RM.fail_ok h).elim
    | some en =>
      rw [hh] at h
      cases RM.ret_ok h
      intro n v hm
      simp only [List.mem_singleton, Prod.mk.injEq] at hm
      obtain ⟨rfl, rfl⟩ := hm
      exact ⟨en, hh, rfl⟩
  | int _ _ => cases RM.ret_ok h; exact nil
  | bool _ => cases RM.ret_ok h; exact nil
  | str _ => cases RM.ret_ok h; exact nil
  | nil _ => cases RM.ret_ok h; exact nil
  | imm _ _ _ => cases RM.ret_ok h; exact nil
  | _ => exact (RM.fail_ok h).elim

theorem toLfs_fr : ∀ {cs : List (AC0 E N)} {ls : List SLeaf} {fr : List (Nat × Option (HEnt (std E N)))} {nw : Bool} {k k' : Nat}, RM.run s (toLfs (O := std E N) cs) k = .ok ((ls, fr, nw), k') → FrOK s fr
  | [], ls, fr, nw, k, k', h => by cases RM.ret_ok h; exact fun _ _ hm => by simp at hm
  | c :: cs, ls, fr, nw, k, k', h => by
    obtain ⟨⟨l, f1, n1⟩, k1, h1, h2⟩ := RM.bind_ok h
    obtain ⟨⟨ls2, f2, n2⟩, k2, h3, h4⟩ := RM.bind_ok h2
    cases RM.ret_ok h4
    exact (toLf_fr h1).append (toLfs_fr h3)

theorem argLf_fr : ∀ {args : List (AV (std E N))} {gives : List Bool} {used u : List Nat} {ls : List SLeaf} {fr : List (Nat × Option (HEnt (std E N)))} {k k' : Nat}, RM.run s (argLf (O := std E N) gives used args) k = .ok ((ls, fr, u), k') → FrOK s fr
  | [], gives, used, u, ls, fr, k, k', h => by cases RM.ret_ok h; exact fun _ _ hm => by simp at hm
  | .tup y :: args, gives, used, u, ls, fr, k, k', h => by
    unfold argLf at h
    exact (RM.fail_ok h).elim
  | .val y :: args, gives, used, u, ls, fr, k, k', h => by
    cases hy : fnV y with
    | some f =>
      have := fnV_some hy; subst this
      exact argLf_fr (gives := gives.tail) h
    | none =>
      rw [argLf_val hy] at h
      split at h
      · obtain ⟨⟨ls1, u1⟩, k1, h1, h2⟩ := RM.bind_ok h
        obtain ⟨⟨ls2, fr2, u2⟩, k2, h3, h4⟩ := RM.bind_ok h2
        cases RM.ret_ok h4
        exact argLf_fr h3
      · obtain ⟨⟨ls1, f1, nw1⟩, k1, h1, h2⟩ := RM.bind_ok h
        obtain ⟨⟨ls2, fr2, u2⟩, k2, h3, h4⟩ := RM.bind_ok h2
        cases RM.ret_ok h4
        exact (toLfs_fr h1).append (argLf_fr h3)

theorem boundCells_none {nw : Bool} {c : List PV} : ∀ {ts : List TypeId} {j q : Nat} {cs : List (AC0 E N)} {hs : List (Nat × HEnt (std E N))}, boundCells (O := std E N) P false nw c j q ts = some (cs, hs) → hs = []
  | [], j, q, cs, hs, h => by simp only [boundCells] at h; cases h; rfl
  | t :: ts, j, q, cs, hs, h => by
    simp only [boundCells] at h
    split at h <;> first
      | (obtain ⟨⟨r, hh⟩, h1, h2⟩ := Option.map_eq_some_iff.1 h; cases h2; exact boundCells_none h1)
      | cases h

theorem boundVals_none {nw : Bool} {c : List PV} : ∀ {ts : List TypeId} {j q : Nat} {vs : List (Val (std E N))} {hs : List (Nat × HEnt (std E N))}, boundVals (O := std E N) P false nw c j q ts = some (vs, hs) → hs = []
  | [], j, q, vs, hs, h => by simp only [boundVals] at h; cases h; rfl
  | t :: ts, j, q, vs, hs, h => by
    simp only [boundVals] at h
    split at h
    · cases h
    · split at h
      · cases h
      · rename_i cs h1 hc
        split at h
        · cases h
        · rename_i vs2 h2 hv
          cases h
          rw [boundCells_none hc, boundVals_none hv]; rfl

theorem ownIf_valid {ci : CI} (h : Valid P E N ci ∧ Valid P E N { ci with own := false }) (g : Option Bool) : Valid P E N { ci with own := ownIf g ci.own } := by
  cases g with
  | none => exact h.1
  | some b => exact h.2

theorem names_okC {q len : Nat} {nw : Bool} {c : AC0 E N} (h : OkC q len nw c) : ∀ n ∈ c.names, q ≤ n ∧ n < q + len := by
  intro n hn
  cases c with
  | own e k => simp only [AC.names, List.mem_singleton] at hn; subst hn; exact h
  | int _ _ => simp [AC.names] at hn
  | bool _ => simp [AC.names] at hn
  | str _ => simp [AC.names] at hn
  | imm _ _ _ => simp [AC.names] at hn
  | _ => exact h.elim

theorem namesVals_sub : ∀ {vs : List (Val (std E N))} {n : Nat}, n ∈ namesVals vs → ∃ v ∈ vs, n ∈ namesCs v.cs
  | v :: vs, n, h => by
    simp only [namesVals, List.mem_append] at h
    rcases h with h | h
    · exact ⟨v, List.mem_cons_self, h⟩
    · obtain ⟨u, hu, hn⟩ := namesVals_sub h; exact ⟨u, List.mem_cons_of_mem _ hu, hn⟩

theorem names_avOf {q len : Nat} {nw : Bool} {vs : List (Val (std E N))} (h : ∀ v ∈ vs, ∀ x ∈ v.cs, OkC q len nw x) : ∀ n ∈ (avOf vs).names, q ≤ n ∧ n < q + len := by
  intro n hn
  have : ∃ v ∈ vs, n ∈ namesCs v.cs := by
    match vs, hn with
    | [x], hn => exact ⟨x, List.mem_cons_self, hn⟩
    | [], hn => exact namesVals_sub hn
    | x :: y :: r, hn => exact namesVals_sub hn
  obtain ⟨v, hv, hm⟩ := this
  obtain ⟨c, hc, hm⟩ := namesCs_sub.1 hm
  exact names_okC (h v hv c hc) n hm

theorem opStep_call {ops : Array Oper} {o : Oper} {i id : Nat} {done : List Nat} {Q : Exit → Act → World → Prop} {K : Act → World → Prop} {g : Option Bool} {f : FuncId} {fns : List Nat} {ls dm : List SLeaf} {next : List PV → Option (Wr (std E N))} {wr : Wr (std E N)} {m m' : Nat}
    (hΓ : ∀ ci ∈ cfg.gam, Valid P E N ci ∧ Valid P E N { ci with own := false })
    (hs : Sim P n0 nt β σ s a w) (gi : GI s done) (hg : ∀ j want d, o.guard = some (j, want) → (ops[j]?).bind (·.dst) = some d → d ∈ done) (hdst : ∀ d, o.dst = some d → d ∉ done ∧ d < nt)
    (hid : ∀ n, id ≤ n → n < id + cntOf P o → Fresh a s n) (ho : ops[i]? = some o) (h : RM.run s (opStep P cfg ops.toList o id) m = .ok (.call g f fns ls dm next, m'))
    {c : List PV} (hm : (match g with | none => E f fns (ls.map Leaf.pv) | some b => if b then E f fns (ls.map Leaf.pv) else some (dm.map Leaf.pv)) = some c) (hn : next c = some wr)
    (hK : ∀ a' w', After P n0 nt (fun n => id ≤ n ∧ n < id + cntOf P o) β σ s a w o.dst wr a' w' → GI (s.apply wr) (o.dst.toList ++ done) → K a' w') : wpOp P ops Q i K a w := by
  unfold opStep at h
  obtain ⟨ctx, m1, h1, h2⟩ := RM.bind_ok h
  obtain ⟨g', m2, h3, h4⟩ := RM.bind_ok h2
  obtain ⟨c1, c2, c3⟩ := ctx_ok hs gi h1 hg
  have hnew : ∀ n, (id ≤ n ∧ n < id + cntOf P o) → Fresh a s n := fun n h => hid n h.1 h.2
  split at h4
  · split at h4
    · exact (RM.fail_ok h4).elim
    · obtain ⟨p, m3, h5, h6⟩ := RM.bind_ok h4
      obtain ⟨v, m4, h7, h8⟩ := RM.bind_ok h6
      obtain ⟨wr', m5, h9, h10⟩ := RM.bind_ok h8
      split at h10
      · cases RM.ret_ok h10
      · exact (RM.fail_ok h10).elim
  · rename_i fop args tys hop
    obtain ⟨fv, m3, h5, h6⟩ := RM.bind_ok h4
    split at h6
    case h_2 => exact (RM.fail_ok h6).elim
    rename_i f' caps
    split at h6
    case h_1 => exact (RM.fail_ok h6).elim
    rename_i fn0 hfn0
    obtain ⟨_, m40, h60, h61⟩ := RM.bind_ok h6
    obtain ⟨avs, m4, h7, h8⟩ := RM.bind_ok h61
    rcases callStep_ok h8 with ⟨_, h9⟩ | ⟨hcaps, fns', ci, fn, ls', fr, u, dm', m2, m3, q1, q2, q3, q4, q5, q6, q7, q8, h9⟩
    · cases h9
    · cases h9
      subst hcaps
      obtain ⟨ciM, ciF, ciN⟩ := findCI_ok q2
      have hcnt : cntOf P o = 16 := by unfold cntOf; rw [hop]
      have hfr := argLf_fr q7
      unfold nextOf at hn
      split at hn
      · cases hn
      · rename_i vs nh hb
        split at hn
        case h_2 => cases hn
        rename_i hle
        have hle := Nat.le_of_ble_eq_true hle
        cases hn
        obtain ⟨row1, okh, okc⟩ := boundVals_ok hb
        generalize hHS : (match ci.nw with | true => [] | false => fr) ++ (u.map (fun n => (n, none)) ++ nh.map fun (n, h) => (n, some h)) = HS at hK
        have hnames : ∀ n, ¬ (id ≤ n ∧ n < id + cntOf P o) → n ∉ (avOf vs).names := fun n hn hm => hn (by
          have := names_avOf okc n hm
          omega)
        -- all ends alike
        have fin : ∀ (z : Value) (w' : World) (β' : Nat → Option Nat) (σ' : Nat → Option (Nat × Nat)), Mem P n0 β' σ' (s.apply { bs := [], hs := HS }) w' → Ext P (fun n => id ≤ n ∧ n < id + cntOf P o) β σ s w β' σ' (s.apply { bs := [], hs := HS }) w' →
            Tidy a (fun n => id ≤ n ∧ n < id + cntOf P o) s (s.apply { bs := [], hs := HS }) →
            ((Facts a ctx ∧ RelAV P n0 β' σ' (s.apply { bs := [], hs := HS }) w' (avOf vs) z) ∨ (¬ Facts a ctx ∧ z = undef)) → K (a.put o.dst z) w' := fun z w' β' σ' hm hx ht hz => by
          cases hd : o.dst with
          | some d =>
            rw [hd] at hK
            have hdd := hdst d hd
            exact hK _ _ (after_put (bs := []) hs gi hdd.1 hdd.2 hnew c2 hm hx ht (hz.imp (fun h => ⟨h.1, h.2, fun n _ hn => hnames n hn⟩) (fun h => h))) (GI.put gi c2 rfl)
          | none =>
            rw [hd] at hK
            refine hK _ _ (after_none hs hnew rfl hm hx ht) ?_
            intro n tv hn
            rw [State.getT_apply0 s _ rfl] at hn
            exact gi n tv hn
        by_cases hw : Region.wanted o (yielded ops a.tmps) = true
        · have hf := c1.1 hw
          have hgt : ∀ b, g = some b → b = true := guardB_ok hs hf h3
          have hE : E f fns (ls.map Leaf.pv) = some c := by
            cases g with
            | none => exact hm
            | some b => have := hgt b rfl; subst this; simpa using hm
          have hfv := (ev_ok hs hf h5).1
          have hargs := evAll_ok hs hf h7
          have hval : Valid P E N { ci with own := ownIf g ci.own } := ownIf_valid (hΓ ci ciM) g
          have hev : a.eval fop = .func (.func f) #[] #[] := by
            obtain ⟨hr1, hr2⟩ := hfv
            have hr2 : (a.eval fop).oneCell' = true := hr2
            rw [cells_one hr2] at hr1
            obtain ⟨vs2, e1, e2, _⟩ := hr1.1
            have : vs2 = [] := List.length_eq_zero_iff.1 (by simpa using e2)
            subst this
            exact e1
          have hnb : fn.body.isNone = false := by cases hb : fn.body <;> simp_all
          have hex : (execOp a.eval o).run P w = .ok (.enter f (args.map a.eval)) w := by
            simp only [beq_eq_false_iff_ne, ne_eq] at q5
            simp [execOp, hop, resolve, Deferred.ofValue, hev, invoke, callFunc, q3, q5, hnb]
            intro hbn; rw [hbn] at q4; cases q4
          have hcall := call_ok (a := a) hs.n0le hs.M hval (fn := fn) (by rw [← ciF] at q3; exact q3) hargs q6 (by rw [← ciN] at q1; exact q1) q7 q8 (rs := c) (by show E ci.f ci.fns _ = _; rw [ciF, ciN]; exact hE) (id := id) hb
            (fun n h1 h2 => hid n h1 (by omega)) (wr := { bs := [], hs := HS }) rfl rfl hHS.symm
          unfold wpOp
          simp only [ho, hw, if_true]
          refine .inl ?_
          unfold Oper.wp
          rw [hex]
          have harr : (args.toList.map a.eval).toArray = args.map a.eval := by apply Array.ext'; simp
          rw [harr] at hcall
          rw [show ({ ci with own := ownIf g ci.own } : CI).f = f from ciF] at hcall
          refine Calls.mono hcall (fun e w' hp => ?_)
          cases e with
          | panicked ch => exact hp.elim
          | outgrown => exact hp.elim
          | returned v =>
            obtain ⟨σ', r1, r2, r3, r4⟩ := hp
            exact fin v w' β σ' r1 (r2.weaken (fun n h => ⟨h.1, by omega⟩)) (r3.weaken (fun n h => ⟨h.1, by omega⟩)) (.inl ⟨hf, r4⟩)
        · have hgs : ∃ b, g = some b := by
            cases g with
            | none => exact (hw (c1.2 (by rw [guardB_none h3]; intro n b hm; simp at hm))).elim
            | some b => exact ⟨b, rfl⟩
          obtain ⟨b, hgb⟩ := hgs
          have hnh : nh = [] := by rw [hgb] at hb; exact boundVals_none hb
          have hpre : PreOK s HS := by
            rw [← hHS, hnh]
            intro n v hm
            rcases List.mem_append.1 hm with hm | hm
            · split at hm
              · simp at hm
              · exact .inr (hfr n v hm)
            · rcases List.mem_append.1 hm with hm | hm
              · obtain ⟨k, _, e⟩ := List.mem_map.1 hm; cases e; exact .inl rfl
              · simp at hm
          have sub := hpre.sub (wr := { bs := [], hs := HS }) rfl rfl
          unfold wpOp
          simp only [ho, hw, if_false]
          exact fin undef w β σ (sub.mem hs.M) (sub.ext P _ β σ w) (Tidy.of_sub hpre rfl rfl rfl _) (.inr ⟨fun h => hw (c1.2 h), rfl⟩)
  · split at h4
    · obtain ⟨⟨as', c', wr'⟩, m3, h5, h6⟩ := RM.bind_ok h4
      cases RM.ret_ok h6
    · exact (RM.fail_ok h4).elim
  · split at h4
    · obtain ⟨⟨as', v, fr⟩, m3, h5, h6⟩ := RM.bind_ok h4
      obtain ⟨fr', m4, h7, h8⟩ := RM.bind_ok h6
      cases RM.ret_ok h8
    · exact (RM.fail_ok h4).elim

end
end Go.Px
