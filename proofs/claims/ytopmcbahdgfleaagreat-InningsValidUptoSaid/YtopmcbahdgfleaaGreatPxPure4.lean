/-
Px: all operations that make no memory.
-/
import Derived.Test.YtopmcbahdgfleaaGreatPxPure3
namespace Go.Px
set_option linter.unusedVariables false
set_option linter.unusedSimpArgs false

section
variable {E : Env} {N : Nat} {P : Program} {n0 : Nz} {nt : Nat} {β : Nat → Option Nat} {σ : Nat → Option (Nat × Nat)} {s : St0 E N} {a : Act} {w : World}

theorem evPtrs_ok (hs : Sim P n0 nt β σ s a w) {ctx : List (Nat × Bool)} (hf : Facts a ctx) : ∀ {xs : List Operand} {l : List (Nat × Nat)} {m m' : Nat}, RM.run s (evPtrs P ctx xs) m = .ok (l, m') →
    (xs.map a.eval).length = l.length ∧ (∀ (i b o : Nat), l[i]? = some (b, o) → ∃ x : Value, (xs.map a.eval)[i]? = some x ∧ RelPtr β s b o x) ∧ ∀ n, Fresh a s n → n ∉ l.map (·.1)
  | [], l, m, m', h => by cases RM.ret_ok h; simp
  | x :: xs, l, m, m', h => by
    obtain ⟨c, m1, h1, h2⟩ := RM.bind_ok h
    obtain ⟨hc, _, hn⟩ := evC_ok hs hf h1
    cases c with
    | ptr b off =>
      obtain ⟨l1, m2, h3, h4⟩ := RM.bind_ok h2
      cases RM.ret_ok h4
      obtain ⟨e1, e2, e3⟩ := evPtrs_ok hs hf h3
      refine ⟨by simpa using e1, fun i b' o' hi => ?_, fun n hf hm => ?_⟩
      · cases i with
        | zero => simp at hi; obtain ⟨rfl, rfl⟩ := hi; exact ⟨_, rfl, hc⟩
        | succ i => exact e2 i b' o' (by simpa using hi)
      · rcases List.mem_cons.1 hm with h | h
        · exact hn n hf (by simp [AC.names, h])
        · exact e3 n hf h
    | _ => exact (RM.fail_ok h2).elim

theorem evCs_ok (hs : Sim P n0 nt β σ s a w) {ctx : List (Nat × Bool)} (hf : Facts a ctx) {T : TypeId} : ∀ {xs : List Operand} {cs : List (AC0 E N)} {m m' : Nat}, RM.run s (evCs P ctx T xs) m = .ok (cs, m') →
    RelCs P n0 β σ s w cs (xs.map a.eval)
  | [], cs, m, m', h => by cases RM.ret_ok h; trivial
  | x :: xs, cs, m, m', h => by
    obtain ⟨c, m1, h1, h2⟩ := RM.bind_ok h
    obtain ⟨l, m2, h3, h4⟩ := RM.bind_ok h2
    cases RM.ret_ok h4
    exact ⟨(evC_ok hs hf h1).1, evCs_ok hs hf h3⟩

theorem minC_ok {lt : Int → Int → Bool} {f : Value → Value → Sem Value} (hfn : ∀ (k : IntKind) (x y : Int), f (.int k x) (.int k y) = pure (.int k (cond (lt y x) y x))) :
    ∀ {r : List (AC0 E N)} {c m : AC0 E N} {v : Value} {vs : List Value}, minC (O := std E N) lt c r = some m → RelC P n0 β σ s w c v → RelCs P n0 β σ s w r vs →
    ∃ z, (vs.foldlM f v).run P w = .ok z w ∧ RelC P n0 β σ s w m z ∧ (r ≠ [] → m.names = []) ∧ (r = [] → m = c)
  | [], c, m, v, vs, h, hc, hr => by
    cases vs with
    | cons => exact hr.elim
    | nil =>
      have : m = c := by cases c <;> (simp only [minC, Option.some.injEq] at h; exact h.symm)
      subst this
      exact ⟨v, by simp, hc, fun h => (h rfl).elim, fun _ => rfl⟩
  | y :: r, c, m, v, vs, h, hc, hr => by
    cases vs with
    | nil => exact hr.elim
    | cons u vs =>
      cases c with
      | int k x =>
        cases y with
        | int k' y' =>
          simp only [minC] at h
          split at h
          · rename_i hk
            have := ikEq_iff.1 hk; subst this
            have hv : v = .int k x := hc
            have hu : u = .int k y' := hr.1
            subst hv; subst hu
            have hc2 : RelC P n0 β σ s w (AC.int (O := std E N) k (cond (lt y' x) y' x)) (.int k (cond (lt y' x) y' x)) := rfl
            obtain ⟨z, hz, hm, hn, he⟩ := minC_ok hfn h hc2 hr.2
            refine ⟨z, ?_, hm, fun _ => ?_, fun h => by cases h⟩
            · simp only [List.foldlM_cons, Sem.run_bind, hfn, Sem.run_pure, Result.andThen_ok]
              exact hz
            · cases hr' : r with
              | nil => rw [he hr']; rfl
              | cons a b => exact hn (by rw [hr']; simp)
          · cases h
        | _ => simp [minC] at h
      | _ => simp [minC] at h

theorem opPick_ok (hs : Sim P n0 nt β σ s a w) {ctx : List (Nat × Bool)} (hf : Facts a ctx) {ty : TypeId} {n : Nat} {x y : Operand} {as : List Bool} {r : AV (std E N)}
    {fr : List (Nat × Option (HEnt (std E N)))} {m m' : Nat} (h : RM.run s (opPick P ctx ty n x y) m = .ok ((as, r, fr), m')) :
    ∃ c z, a.tmps.getD n undef = .bool c ∧ z = (if c then a.eval x else a.eval y) ∧ RelAV P n0 β σ s w r z ∧ r.names = [] ∧ fr = [] := by
  obtain ⟨m1, h⟩ := RM.t_ok h
  cases hg : s.getT n with
  | none => rw [hg] at h; exact (RM.fail_ok h).elim
  | some tv =>
    rw [hg] at h
    simp only at h
    split at h
    · rename_i c hin hv
      obtain ⟨u, m2, h1, h2⟩ := RM.bind_ok h
      obtain ⟨v, m3, h3, h4⟩ := RM.bind_ok h2
      have hn : a.tmps.getD n undef = .bool c := by
        rcases hs.T n _ hg with ⟨_, hr⟩ | ⟨hnf, _⟩
        · rw [hv] at hr
          exact relVal_inv hr
        · exact (hnf (hf.of_in hin)).elim
      split at h4
      · rename_i cs hag hm
        cases RM.ret_ok h4
        have hag' : u.agg = v.agg := by simpa using hag
        refine ⟨c, _, hn, rfl, ?_, mergeCs_names hm, rfl⟩
        cases c with
        | true =>
          have hf2 : Facts a ((n, true) :: ctx) := fun k b hk => by
            rcases List.mem_cons.1 hk with e | hk
            · cases e; exact hn
            · exact hf k b hk
          obtain ⟨hr, _⟩ := evV_ok hs hf2 h1
          obtain ⟨h5, _, _⟩ := mergeCs_rel (P := P) (n0 := n0) (β := β) (σ := σ) (s := s) (w := w) (vs := (a.eval x).cells.toList) hm (fun _ => hr.1) (fun e => by cases e)
          exact ⟨h5, hr.2⟩
        | false =>
          have hf2 : Facts a ((n, false) :: ctx) := fun k b hk => by
            rcases List.mem_cons.1 hk with e | hk
            · cases e; exact hn
            · exact hf k b hk
          obtain ⟨hr, _⟩ := evV_ok hs hf2 h3
          obtain ⟨h5, _, _⟩ := mergeCs_rel (P := P) (n0 := n0) (β := β) (σ := σ) (s := s) (w := w) (vs := (a.eval y).cells.toList) hm (fun e => by cases e) (fun _ => hr.1)
          refine ⟨h5, ?_⟩
          have := hr.2
          simp only [hag']
          exact this
      · exact (RM.fail_ok h4).elim
    · exact (RM.fail_ok h).elim

theorem RelVals.get : ∀ {cs : List (Val (std E N))} {vs : List Value}, RelVals P n0 β σ s w cs vs → ∀ {i : Nat} {c : Val (std E N)}, cs[i]? = some c → ∃ v, vs[i]? = some v ∧ RelVal P n0 β σ s w c v
  | c :: cs, x :: vs, h, 0, c', hc => by simp at hc; subst hc; exact ⟨x, rfl, h.1⟩
  | c :: cs, x :: vs, h, i + 1, c', hc => by
    obtain ⟨v, hv, hr⟩ := RelVals.get h.2 (i := i) (by simpa using hc)
    exact ⟨v, by simpa using hv, hr⟩
  | [], _, _, i, c', hc => by simp at hc
  | _ :: _, [], h, _, _, _ => h.elim

theorem namesVals_get {cs : List (Val (std E N))} {i : Nat} {c : Val (std E N)} (hc : cs[i]? = some c) {n : Nat} (hn : n ∈ namesCs c.cs) : n ∈ namesVals cs := by
  induction cs generalizing i with
  | nil => simp at hc
  | cons x cs ih =>
    cases i with
    | zero => simp at hc; subst hc; simp [namesVals, hn]
    | succ i => simp only [namesVals, List.mem_append]; exact .inr (ih (by simpa using hc))

/-- `execOp` for an operation that gives a value. -/
theorem exec_v {o : Oper} {x : Sem Value} {z : Value} (he : execOp a.eval o = (do pure (.value (← x)))) (hx : x.run P w = .ok z w) : (execOp a.eval o).run P w = .ok (.value z) w := by
  rw [he]; simp [hx]

theorem opPure_ok (hs : Sim P n0 nt β σ s a w) {ctx : List (Nat × Bool)} (hf : Facts a ctx) {o : Oper} {as : List Bool} {r : AV (std E N)}
    {fr : List (Nat × Option (HEnt (std E N)))} {m m' : Nat} (h : RM.run s (opPure P ctx o.type o.op) m = .ok ((as, r, fr), m')) (has : ∀ b ∈ as, b = true) :
    ∃ z, (execOp a.eval o).run P w = .ok (.value z) w ∧ RelAV P n0 β σ (s.apply { hs := fr }) w r z ∧ (∀ n, Fresh a s n → n ∉ r.names) ∧ FrOK s fr := by
  have frn : FrOK s ([] : List (Nat × Option (HEnt (std E N)))) := fun n v hm => by simp at hm
  have sub0 : ∀ {c : AV (std E N)} {z : Value}, RelAV P n0 β σ s w c z → RelAV P n0 β σ (s.apply { hs := [] }) w c z := fun {c z} hr =>
    ((frn.sub (wr := { hs := [] }) rfl rfl).ext P (fun _ => False) β σ w).relAV (fun _ _ => id) hr
  have one0 : ∀ {c : AC0 E N} {z : Value}, RelC P n0 β σ s w c z → RelAV P n0 β σ (s.apply { hs := [] }) w (one c) z := fun {c z} hr => sub0 (relAV_one hr)
  have nm : ∀ {c : AC0 E N}, c.names = [] → ∀ n, Fresh a s n → n ∉ (one c).names := fun {c} hc n _ => by simp [AV.names, one, namesCs, hc]
  cases hop : o.op with
  | move x =>
    rw [hop] at h
    obtain ⟨v, m1, h1, h2⟩ := RM.bind_ok h
    cases RM.ret_ok h2
    obtain ⟨hr, hn⟩ := ev_ok hs hf h1
    exact ⟨a.eval x, by simp [execOp, hop], sub0 hr, hn, frn⟩
  | assign x =>
    rw [hop] at h
    obtain ⟨v, m1, h1, h2⟩ := RM.bind_ok h
    cases RM.ret_ok h2
    obtain ⟨hr, hn⟩ := ev_ok hs hf h1
    exact ⟨a.eval x, by simp [execOp, hop], sub0 hr, hn, frn⟩
  | pick c x y =>
    rw [hop] at h
    cases c with
    | tmp n =>
      obtain ⟨c, z, h1, h2, h3, h4, rfl⟩ := opPick_ok hs hf h
      have hc : a.eval (.tmp n) = .bool c := h1
      refine ⟨z, ?_, sub0 h3, fun n _ => by rw [h4]; simp, frn⟩
      simp only [execOp, hop, Sem.run_bind, hc, asBool, Sem.run_pure, Result.andThen_ok, h2]
    | const c => exact (RM.fail_ok h).elim
    | func f => exact (RM.fail_ok h).elim
    | global g => exact (RM.fail_ok h).elim
  | build T parts =>
    rw [hop] at h
    simp only [opPure] at h
    split at h
    · exact (RM.fail_ok h).elim
    · rename_i z hz
      split at h
      · exact (RM.fail_ok h).elim
      · rename_i hag
        obtain ⟨i, v, hi, hiz, hzv, hr, hn, ho⟩ := zeroV_spec (n0 := n0) (β := β) (σ := σ) (s := s) (w := w) hz
        obtain ⟨za, zc⟩ := z
        simp only at hag
        subst hag
        obtain ⟨vs, rfl, hrz⟩ := relVal_agg hr
        obtain ⟨cs, m1, h1, h2⟩ := RM.bind_ok h
        cases RM.ret_ok h2
        split at h1
        · rename_i fs hu
          obtain ⟨_, m2, hg, h3⟩ := RM.bind_ok h1
          have hinfo : ∀ f ∈ fs.toList, ∃ i, P.info? f.type = some i := fun f hfm => by
            have := List.all_eq_true.1 (RM.guard_ok hg) f hfm
            exact Option.isSome_iff_exists.1 this
          have hmap : (fs.mapM fun f => do pure (f.offset, ← sizeOf f.type) : Sem (Array (Nat × Nat))).run P w = .ok (fs.map fun f => (f.offset, P.cellsOf f.type)) w := by
            rw [Array.mapM_eq_mapM_toList]
            have : ∀ l : List Field, (∀ f ∈ l, ∃ i, P.info? f.type = some i) → (l.mapM fun f => do pure (f.offset, ← sizeOf f.type) : Sem (List (Nat × Nat))).run P w = .ok (l.map fun f => (f.offset, P.cellsOf f.type)) w := by
              intro l
              induction l with
              | nil => intro _; simp
              | cons f l ih =>
                intro hl
                obtain ⟨i, hi⟩ := hl f List.mem_cons_self
                rw [List.mapM_cons]
                simp only [Sem.run_bind, run_sizeOf' hi, Result.andThen_ok, Sem.run_pure, ih (fun g hg => hl g (List.mem_cons_of_mem _ hg)), List.map_cons]
            simp only [Sem.run_map, this fs.toList hinfo, Result.andThen_ok]
            congr 1
            apply Array.ext'
            simp
          obtain ⟨cells', f1, f2, f3, f4⟩ := fillP_ok hs hf (place := fun i => (fs.toList[i]?).map fun (f : Field) => (f.offset, f.type))
            (place' := ((fs.map fun f => (f.offset, P.cellsOf f.type))[·]?)) (fun i off T hp => by
              simp only [Option.map_eq_some_iff, Prod.mk.injEq] at hp
              obtain ⟨f, hf, rfl, rfl⟩ := hp
              have : fs[i]? = some f := by simpa using hf
              simp [this]) h3 hrz
          refine ⟨.agg cells', exec_v (x := Instr.build T (parts.map fun (i, x) => (i, a.eval x))) (by simp [execOp, hop]) ?_, sub0 ⟨f2, _, rfl⟩, fun n hnf => f4 n hnf (by rw [hn]; simp), frn⟩
          have hl : (parts.map fun (i, x) => (i, a.eval x)).toList = parts.toList.map fun (i, x) => (i, a.eval x) := by simp
          simp only [Instr.build, Sem.run_bind, hzv, Result.andThen_ok, run_underlying hu, hmap, hl, Value.cells, f1, Sem.run_pure]
        · rename_i n e hu
          obtain ⟨_, m2, hg, h3⟩ := RM.bind_ok h1
          obtain ⟨i, hi⟩ := info_of_cells (natBlt_iff.1 (RM.guard_ok hg))
          obtain ⟨cells', f1, f2, f3, f4⟩ := fillP_ok hs hf (place := fun i => some (i * P.cellsOf e, e)) (place' := fun i => some (i * P.cellsOf e, P.cellsOf e)) (fun i off T hp => by
              simp only [Option.some.injEq, Prod.mk.injEq] at hp
              obtain ⟨rfl, rfl⟩ := hp
              rfl) h3 hrz
          refine ⟨.agg cells', exec_v (x := Instr.build T (parts.map fun (i, x) => (i, a.eval x))) (by simp [execOp, hop]) ?_, sub0 ⟨f2, _, rfl⟩, fun n hnf => f4 n hnf (by rw [hn]; simp), frn⟩
          have hl : (parts.map fun (i, x) => (i, a.eval x)).toList = parts.toList.map fun (i, x) => (i, a.eval x) := by simp
          simp only [Instr.build, Sem.run_bind, hzv, Result.andThen_ok, run_underlying hu, run_sizeOf' hi, hl, Value.cells, f1, Sem.run_pure]
        · exact (RM.fail_ok h1).elim
  | load T p =>
    rw [hop] at h
    obtain ⟨c, m1, h1, h2⟩ := RM.bind_ok h
    obtain ⟨cs, m2, h3, h4⟩ := RM.bind_ok h2
    obtain ⟨_, m3, h5, h6⟩ := RM.bind_ok h4
    have hag := RM.guard_ok h5
    cases RM.ret_ok h6
    obtain ⟨hc, _, _⟩ := evC_ok hs hf h1
    obtain ⟨⟨blk, off, vs, hv, hl, hr, hcell⟩, hn⟩ := loadCs_ok hs.M hc h3
    obtain ⟨z, hz, hrel⟩ := run_loadVar_cells hr hag hl hcell
    refine ⟨z, exec_v (x := Instr.loadAt T (a.eval p)) (by simp [execOp, hop]) (by simp [Instr.loadAt, hv, Instr.sureAddr, hz]), sub0 hrel, fun n hn' => hn n hn', frn⟩
  | nilCheck x =>
    rw [hop] at h
    obtain ⟨c, m1, h1, h2⟩ := RM.bind_ok h
    obtain ⟨hc, _, hn⟩ := evC_ok hs hf h1
    have fin : ∀ c' : AC0 E N, c = c' → (∃ blk o, a.eval x = .pointer (some ⟨blk, o, none⟩)) → ∃ z, (execOp a.eval o).run P w = .ok (.value z) w ∧ RelAV P n0 β σ (s.apply { hs := [] }) w (one c') z ∧ (∀ n, Fresh a s n → n ∉ (one c').names) := by
      rintro c' rfl ⟨blk, o', hv⟩
      refine ⟨a.eval x, by simp [execOp, hop, hv], one0 hc, fun n hf hm => hn n hf (by simpa [AV.names, one, namesCs] using hm)⟩
    cases c with
    | ptr b off => cases RM.ret_ok h2; obtain ⟨z, z1, z2, z3⟩ := fin _ rfl (by obtain ⟨blk, hv, _⟩ := hc; exact ⟨_, _, hv⟩); exact ⟨z, z1, z2, z3, frn⟩
    | eptr id i off => cases RM.ret_ok h2; obtain ⟨z, z1, z2, z3⟩ := fin _ rfl (by obtain ⟨_, blk, o', hv, _⟩ := hc; exact ⟨_, _, hv⟩); exact ⟨z, z1, z2, z3, frn⟩
    | iptr e nw l i off => cases RM.ret_ok h2; obtain ⟨z, z1, z2, z3⟩ := fin _ rfl (by obtain ⟨_, _, _, _, blk, _, _, _, _, _, _, hv⟩ := hc; exact ⟨_, _, hv⟩); exact ⟨z, z1, z2, z3, frn⟩
    | aptr b off n sz i inner => cases RM.ret_ok h2; obtain ⟨z, z1, z2, z3⟩ := fin _ rfl (by obtain ⟨_, _, blk, hv, _⟩ := hc; exact ⟨_, _, hv⟩); exact ⟨z, z1, z2, z3, frn⟩
    | _ => exact (RM.fail_ok h2).elim
  | binOp op T x y yT =>
    rw [hop] at h
    obtain ⟨p, m1, h1, h2⟩ := RM.bind_ok h
    obtain ⟨q, m2, h3, h4⟩ := RM.bind_ok h2
    obtain ⟨hp, _⟩ := evV_ok hs hf h1
    obtain ⟨hq, _⟩ := evV_ok hs hf h3
    obtain ⟨z, hz, hr, hn, rfl⟩ := opBin_ok (yT := yT) (x := x) hp hq (fun k n hy => by rw [hy]; rfl) h4 has
    exact ⟨z, exec_v (by simp [execOp, hop]) hz, sub0 hr, fun n _ => by rw [hn]; simp, frn⟩
  | unOp op T x =>
    rw [hop] at h
    obtain ⟨c, m1, h1, h2⟩ := RM.bind_ok h
    obtain ⟨hc, ho, hnn⟩ := evC_ok hs hf h1
    split at h2
    · rename_i b
      cases RM.ret_ok h2
      have hv : a.eval x = .bool b := hc
      exact ⟨.bool !b, exec_v (x := Op.unary .not (a.eval x)) (by simp [execOp, hop]) (by rw [hv]; rfl), one0 (c := .bool _) rfl, nm rfl, frn⟩
    · rename_i k i
      cases RM.ret_ok h2
      have hv : a.eval x = .int k i := hc
      exact ⟨.int k (k.wrap (0 - i)), exec_v (x := Op.unary .neg (a.eval x)) (by simp [execOp, hop]) (by rw [hv]; rfl), one0 (c := .int _ _) rfl, nm rfl, frn⟩
    · exact (RM.fail_ok h2).elim
  | convert src dst x =>
    rw [hop] at h
    obtain ⟨c, m1, h1, h2⟩ := RM.bind_ok h
    obtain ⟨hc, ho, hnn⟩ := evC_ok hs hf h1
    unfold opConvert at h2
    split at h2
    · exact (RM.fail_ok h2).elim
    · rename_i d hu
      split at h2
      · rename_i k k' i hk
        cases RM.ret_ok h2
        have hv : a.eval x = .int k' i := hc
        refine ⟨.int k (k.wrap i), exec_v (x := Go.convert src dst (a.eval x)) (by simp [execOp, hop]) ?_, one0 (c := .int _ _) rfl, nm rfl, frn⟩
        simp only [Go.convert, Sem.run_bind, run_underlying hu, run_underlying (lkOf_int hk), Result.andThen_ok, hv]
        cases d <;> rfl
      · rename_i x' hk
        cases RM.ret_ok h2
        have hv : a.eval x = .string x' := hc
        refine ⟨.string x', exec_v (x := Go.convert src dst (a.eval x)) (by simp [execOp, hop]) ?_, one0 (c := .str _) rfl, nm rfl, frn⟩
        simp only [Go.convert, Sem.run_bind, run_underlying hu, run_underlying (lkOf_str hk), Result.andThen_ok, hv]
        cases d <;> rfl
      · exact (RM.fail_ok h2).elim
  | extract x i =>
    rw [hop] at h
    obtain ⟨v, m1, h1, h2⟩ := RM.bind_ok h
    obtain ⟨hr, hn⟩ := ev_ok hs hf h1
    cases v with
    | val v => exact (RM.fail_ok h2).elim
    | tup vs =>
      simp only at h2
      split at h2
      · rename_i v hv
        cases RM.ret_ok h2
        obtain ⟨us, hu, hrs⟩ := hr
        obtain ⟨z, hz, hrz⟩ := hrs.get hv
        refine ⟨z, exec_v (x := Instr.extract (a.eval x) i) (by simp [execOp, hop]) ?_, sub0 hrz, fun n hf hm => hn n hf (namesVals_get hv hm), frn⟩
        rw [hu]
        have : us[i]? = some z := by simpa using hz
        simp [Instr.extract, this]
      · exact (RM.fail_ok h2).elim
  | field T x f =>
    rw [hop] at h
    obtain ⟨v, m1, h1, h2⟩ := RM.bind_ok h
    obtain ⟨hr, hn⟩ := evV_ok hs hf h1
    obtain ⟨va, vc⟩ := v
    simp only at h2
    split at h2
    · exact (RM.fail_ok h2).elim
    · rename_i fd hfd
      split at h2
      · rename_i cs hsl
        obtain ⟨_, m2, h3, h4⟩ := RM.bind_ok h2
        have hag := RM.guard_ok h3
        cases RM.ret_ok h4
        obtain ⟨us, hu, hrs⟩ := relVal_agg hr
        obtain ⟨z, hz, hrel⟩ := run_field hfd hrs hsl hag
        refine ⟨z, exec_v (x := Instr.field T (a.eval x) f) (by simp [execOp, hop]) (by rw [hu]; exact hz), sub0 hrel, fun n hf hm => hn n hf (namesCs_sliceOf hsl hm), frn⟩
      · exact (RM.fail_ok h2).elim
  | fieldAddr T x f =>
    rw [hop] at h
    obtain ⟨c, m1, h1, h2⟩ := RM.bind_ok h
    obtain ⟨hc, _, hn⟩ := evC_ok hs hf h1
    split at h2
    · exact (RM.fail_ok h2).elim
    · rename_i fd hfd
      obtain ⟨_, m2, h3, h4⟩ := RM.bind_ok h2
      have hg := RM.guard_ok h3
      split at h4
      · rename_i p hp
        cases RM.ret_ok h4
        obtain ⟨blk, off, hv, hr, hnm⟩ := addOff_rel hp hc
        refine ⟨_, exec_v (x := Instr.fieldAt T (a.eval x) f) (by simp [execOp, hop]) (by rw [hv]; exact run_fieldAt hfd (by simpa [natBeq_false] using hg)), one0 hr, fun n hf hm => hn n hf (by simpa [AV.names, one, namesCs, hnm] using hm), frn⟩
      · exact (RM.fail_ok h4).elim
  | indexAddr T x ix =>
    rw [hop] at h
    obtain ⟨c, m1, h1, h2⟩ := RM.bind_ok h
    obtain ⟨i, m2, h3, h4⟩ := RM.bind_ok h2
    obtain ⟨hc, _, hn⟩ := evC_ok hs hf h1
    obtain ⟨k, hk⟩ := evI_ok hs hf h3
    obtain ⟨z, hz, hr, hnm, rfl⟩ := opIndexAddr_ok (k := k) hs hc (fun k' n hx => by rw [hx] at hk; cases hk; rfl) h4 has
    exact ⟨z, exec_v (x := Instr.indexAt T (a.eval x) (a.eval ix)) (by simp [execOp, hop]) (by rw [hk]; exact hz), sub0 hr, fun n hf hm => hn n hf (hnm n hm), frn⟩
  | index T x ix =>
    rw [hop] at h
    obtain ⟨v, m1, h1, h2⟩ := RM.bind_ok h
    obtain ⟨i, m2, h3, h4⟩ := RM.bind_ok h2
    obtain ⟨hc, hn⟩ := evV_ok hs hf h1
    obtain ⟨k, hk⟩ := evI_ok hs hf h3
    obtain ⟨z, hz, hr, hnm, rfl⟩ := opIndex_ok (k := k) hc (fun k' n hx => by rw [hx] at hk; cases hk; rfl) h4 has
    exact ⟨z, exec_v (x := Instr.index T (a.eval x) (a.eval ix)) (by simp [execOp, hop]) (by rw [hk]; exact hz), sub0 hr, fun n hf hm => hn n hf (hnm n hm), frn⟩
  | slice T x lo hi mx =>
    rw [hop] at h
    obtain ⟨c, m1, h1, h2⟩ := RM.bind_ok h
    obtain ⟨hc, _, hn⟩ := evC_ok hs hf h1
    obtain ⟨z, hz, hr, hnm, hfr⟩ := opSlice_ok hs hf hc h2 has
    exact ⟨z, exec_v (by simp [execOp, hop]) hz, hr, fun n _ => by rw [hnm]; simp, hfr⟩
  | makeFunc fn first caps =>
    rw [hop] at h
    cases fn with
    | func f =>
      simp only [opPure] at h
      split at h
      · rename_i hfirst
        obtain ⟨l, m1, h1, h2⟩ := RM.bind_ok h
        cases RM.ret_ok h2
        obtain ⟨e1, e2, e3⟩ := evPtrs_ok hs hf h1
        have hf0 : first = #[] := Array.toList_eq_nil_iff.1 hfirst
        refine ⟨.func (.func f) #[] (caps.map a.eval), exec_v (x := Instr.makeFunc (.func f) (first.map a.eval) (caps.map a.eval)) (by simp [execOp, hop]) (by subst hf0; simp [Instr.makeFunc]), one0 ⟨caps.toList.map a.eval, ?_, e1, e2⟩, fun n hf hm => e3 n hf (by simpa [AV.names, one, namesCs, AC.names] using hm), frn⟩
        congr 1
        apply Array.ext'
        simp
      · exact (RM.fail_ok h).elim
    | _ => exact (RM.fail_ok h).elim
  | call c =>
    rw [hop] at h
    obtain ⟨callee, args, argTypes⟩ := c
    cases callee with
    | value f => exact (RM.fail_ok h).elim
    | invoke x y => exact (RM.fail_ok h).elim
    | builtin b =>
      have hex : ∀ (x : Sem Value), builtin b argTypes o.type (args.map fun | .const _ => true | _ => false) (args.map a.eval) = (do pure (.value (← x))) →
          execOp a.eval o = (do pure (.value (← x))) := by
        intro x hx
        simp only [execOp, hop, resolve]
        simp only [pure_bind, invoke]
        exact hx
      cases b with
      | len =>
        simp only [opPure] at h
        split at h
        · rename_i x T ha hT
          have ha' : args = #[x] := by apply Array.ext'; simpa using ha
          have hT' : argTypes = #[T] := by apply Array.ext'; simpa using hT
          subst ha'; subst hT'
          split at h
          · rename_i n e hu
            cases RM.ret_ok h
            refine ⟨goInt n, exec_v (hex (Builtin.len_ #[T] o.type #[a.eval x]) (by simp [builtin])) ?_, one0 (c := .int _ _) rfl, nm rfl, frn⟩
            simp [Builtin.len_, run_underlying hu]
          · rename_i hu
            obtain ⟨c, m1, h1, h2⟩ := RM.bind_ok h
            obtain ⟨hc, _, _⟩ := evC_ok hs hf h1
            cases c with
            | str y =>
              cases RM.ret_ok h2
              have hv : a.eval x = .string y := hc
              refine ⟨goInt (ByteArray.size y), exec_v (hex (Builtin.len_ #[T] o.type #[a.eval x]) (by simp [builtin])) ?_, one0 (c := .int _ _) rfl, nm rfl, frn⟩
              simp [Builtin.len_, run_underlying hu, hv]
            | _ => exact (RM.fail_ok h2).elim
          · rename_i e hu
            obtain ⟨c, m1, h1, h2⟩ := RM.bind_ok h
            obtain ⟨⟨e', l, nb⟩, m2, h3, h4⟩ := RM.bind_ok h2
            cases RM.ret_ok h4
            obtain ⟨hc, _, _⟩ := evC_ok hs hf h1
            have key : ∃ av cap, a.eval x = .slice av (List.length l) cap := by
              cases c with
              | nil e0 =>
                have hrr := RM.ret_ok h3
                simp only [Prod.mk.injEq] at hrr
                obtain ⟨_, rfl, _⟩ := hrr
                obtain ⟨t, ts, ht, hts, av, hv⟩ := hc
                exact ⟨av, 0, hv⟩
              | imm e0 nw0 l0 =>
                have hrr := RM.ret_ok h3
                simp only [Prod.mk.injEq] at hrr
                obtain ⟨_, rfl, _⟩ := hrr
                obtain ⟨t, ht, hrep⟩ := hc
                generalize a.eval x = vv at hrep
                cases hrep with
                | @sl _ e2 ts av len cap _ vv ht' hts hl hr hc hm hv => exact ⟨av, cap, by rw [hl]⟩
              | own e0 id =>
                obtain ⟨m5, h3⟩ := RM.h_ok h3
                cases hh : s.getH id with
                | none => rw [hh] at h3; exact (RM.fail_ok h3).elim
                | some en =>
                  rw [hh] at h3
                  have hrr := RM.ret_ok h3
                  simp only [Prod.mk.injEq] at hrr
                  obtain ⟨_, rfl, _⟩ := hrr
                  obtain ⟨_, hk⟩ := hc
                  obtain ⟨_, ho⟩ := hk en hh
                  rcases ho with ⟨blk, cap, _, hv⟩ | ⟨_, hz, av, hv⟩
                  · exact ⟨_, cap, hv⟩
                  · exact ⟨av, 0, by rw [hz]; exact hv⟩
              | _ => exact (RM.fail_ok h3).elim
            obtain ⟨av, cap, hv⟩ := key
            refine ⟨goInt (List.length l), exec_v (hex (Builtin.len_ #[T] o.type #[a.eval x]) (by simp [builtin])) ?_, one0 (c := .int _ _) rfl, nm rfl, frn⟩
            simp [Builtin.len_, run_underlying hu, hv]
          · exact (RM.fail_ok h).elim
        · exact (RM.fail_ok h).elim
      | min =>
        obtain ⟨cs, m1, h1, h2⟩ := RM.bind_ok h
        have hcs := evCs_ok hs hf h1
        have hl : (args.map a.eval).toList = args.toList.map a.eval := by simp
        match cs, h2, hcs with
        | [], h2, _ => exact (RM.fail_ok h2).elim
        | [_], h2, _ => exact (RM.fail_ok h2).elim
        | c :: c2 :: r, h2, hcs =>
          simp only at h2
          split at h2
          · rename_i mm hmm
            cases RM.ret_ok h2
            cases hxs : args.toList.map a.eval with
            | nil => rw [hxs] at hcs; exact hcs.elim
            | cons v vs =>
              rw [hxs] at hcs
              obtain ⟨z, hz, hr, hn1, hn2⟩ := minC_ok (P := P) (n0 := n0) (β := β) (σ := σ) (s := s) (w := w) (f := Builtin.min2) (fun k x y => by simp [Builtin.min2, iLt, Bool.cond_decide]) hmm hcs.1 hcs.2
              refine ⟨z, exec_v (hex (Builtin.min_ argTypes o.type (args.map a.eval)) rfl) ?_, one0 hr, fun n hnf hm => ?_, frn⟩
              · simp only [Builtin.min_, hl, hxs]; exact hz
              · rw [show (one mm).names = namesCs [mm] from rfl] at hm; simp [namesCs, hn1 (by simp)] at hm
          · exact (RM.fail_ok h2).elim
      | max =>
        obtain ⟨cs, m1, h1, h2⟩ := RM.bind_ok h
        have hcs := evCs_ok hs hf h1
        have hl : (args.map a.eval).toList = args.toList.map a.eval := by simp
        match cs, h2, hcs with
        | [], h2, _ => exact (RM.fail_ok h2).elim
        | [_], h2, _ => exact (RM.fail_ok h2).elim
        | c :: c2 :: r, h2, hcs =>
          simp only at h2
          split at h2
          · rename_i mm hmm
            cases RM.ret_ok h2
            cases hxs : args.toList.map a.eval with
            | nil => rw [hxs] at hcs; exact hcs.elim
            | cons v vs =>
              rw [hxs] at hcs
              obtain ⟨z, hz, hr, hn1, hn2⟩ := minC_ok (P := P) (n0 := n0) (β := β) (σ := σ) (s := s) (w := w) (f := Builtin.max2) (lt := fun a b => iLt b a) (fun k x y => by simp [Builtin.max2, iLt, Bool.cond_decide]) hmm hcs.1 hcs.2
              refine ⟨z, exec_v (hex (Builtin.max_ argTypes o.type (args.map a.eval)) rfl) ?_, one0 hr, fun n hnf hm => ?_, frn⟩
              · simp only [Builtin.max_, hl, hxs]; exact hz
              · rw [show (one mm).names = namesCs [mm] from rfl] at hm; simp [namesCs, hn1 (by simp)] at hm
          · exact (RM.fail_ok h2).elim
      | _ => exact (RM.fail_ok h).elim
  | _ => rw [hop] at h; exact (RM.fail_ok h).elim

end
end Go.Px
