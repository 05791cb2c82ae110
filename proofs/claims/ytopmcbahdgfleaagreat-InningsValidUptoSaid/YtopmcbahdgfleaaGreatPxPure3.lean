/-
Px: composite values, operators, indexes, slices; and all operations that make no memory together.
-/
import Derived.Test.YtopmcbahdgfleaaGreatPxPure2
namespace Go.Px
set_option linter.unusedVariables false
set_option linter.unusedSimpArgs false

section
variable {E : Env} {N : Nat} {P : Program} {n0 : Nz} {nt : Nat} {β : Nat → Option Nat} {σ : Nat → Option (Nat × Nat)} {s : St0 E N} {a : Act} {w : World}

theorem replaceAt_eq {α : Type} : ∀ {l : List α} {off : Nat} {r l' : List α}, replaceAt l off r = some l' → l' = l.take off ++ r ++ l.drop (off + r.length) ∧ (r = [] ∨ off + r.length ≤ l.length)
  | l, off, [], l', h => by simp only [replaceAt] at h; cases h; simp
  | [], off, y :: ys, l', h => by simp [replaceAt] at h
  | x :: l, 0, y :: ys, l', h => by
    simp only [replaceAt, Option.map_eq_some_iff] at h
    obtain ⟨m, hm, rfl⟩ := h
    obtain ⟨h1, h2⟩ := replaceAt_eq hm
    refine ⟨by rw [h1]; simp [Nat.add_comm], .inr ?_⟩
    rcases h2 with rfl | h2
    · simp
    · simp at h2 ⊢; omega
  | x :: l, n + 1, y :: ys, l', h => by
    simp only [replaceAt, Option.map_eq_some_iff] at h
    obtain ⟨m, hm, rfl⟩ := h
    obtain ⟨h1, h2⟩ := replaceAt_eq hm
    refine ⟨by rw [h1]; simp only [List.take_succ_cons, List.cons_append, List.length_cons, List.cons.injEq, true_and]; rw [show n + 1 + (ys.length + 1) = n + (ys.length + 1) + 1 by omega, List.drop_succ_cons], .inr ?_⟩
    rcases h2 with h2 | h2
    · cases h2
    · simp at h2 ⊢; omega

theorem replaceAt_rel {cs r cs' : List (AC0 E N)} {off : Nat} {vs us : List Value} (h : replaceAt cs off r = some cs') (hc : RelCs P n0 β σ s w cs vs) (hr : RelCs P n0 β σ s w r us) :
    RelCs P n0 β σ s w cs' (vs.take off ++ us ++ vs.drop (off + us.length)) := by
  obtain ⟨rfl, _⟩ := replaceAt_eq h
  have hl := RelCs.length hr
  refine RelCs.append (RelCs.append (RelCs.take off hc) hr) ?_
  rw [hl]
  exact RelCs.drop _ hc

theorem replaceAt_names {cs r cs' : List (AC0 E N)} {off n : Nat} (h : replaceAt cs off r = some cs') (hn : n ∈ namesCs cs') : n ∈ namesCs cs ∨ n ∈ namesCs r := by
  obtain ⟨rfl, _⟩ := replaceAt_eq h
  rw [namesCs_sub] at hn
  obtain ⟨c, hc, hm⟩ := hn
  rw [List.mem_append, List.mem_append] at hc
  rcases hc with (hc | hc) | hc
  · exact .inl (namesCs_sub.2 ⟨c, List.mem_of_mem_take hc, hm⟩)
  · exact .inr (namesCs_sub.2 ⟨c, hc, hm⟩)
  · exact .inl (namesCs_sub.2 ⟨c, List.mem_of_mem_drop hc, hm⟩)

theorem list_set_seg {α : Type} (l : List α) (k : Nat) (v : α) (rest : List α) (h : k + (rest.length + 1) ≤ l.length) :
    (l.set k v).take (k + 1) ++ rest ++ (l.set k v).drop (k + 1 + rest.length) = l.take k ++ (v :: rest) ++ l.drop (k + (rest.length + 1)) := by
  have h1 : (l.set k v).take (k + 1) = l.take k ++ [v] := by
    apply List.ext_getElem?
    intro j
    simp only [List.getElem?_take, List.getElem?_set, List.getElem?_append, List.length_take]
    by_cases hj : j < k
    · have : ¬ k = j := by omega
      simp [hj, this, show j < k + 1 by omega, show j < min k l.length by omega]
    · by_cases hjk : j = k
      · subst hjk
        have : j < l.length := by omega
        simp [this, show ¬ j < min j l.length by omega, show j - min j l.length = 0 by omega]
      · have h2 : ¬ j < k + 1 := by omega
        have h3 : min k l.length = k := by omega
        simp [h2, h3, hj]
        omega
  have h2 : (l.set k v).drop (k + 1 + rest.length) = l.drop (k + (rest.length + 1)) := by
    apply List.ext_getElem?
    intro j
    simp only [List.getElem?_drop, List.getElem?_set]
    have : ¬ k = k + 1 + rest.length + j := by omega
    simp [this]
    congr 1
    omega
  rw [h1, h2]
  simp

theorem foldl_set (off : Nat) : ∀ (xs : List Value) (k : Nat) (cs : Array Value), off + k + xs.length ≤ cs.size →
    ((xs.zipIdx k).foldl (fun cs (x : Value × Nat) => cs.setIfInBounds (off + x.2) x.1) cs).toList = cs.toList.take (off + k) ++ xs ++ cs.toList.drop (off + k + xs.length)
  | [], k, cs, h => by simp
  | x :: xs, k, cs, h => by
    simp only [List.zipIdx_cons, List.foldl_cons]
    rw [foldl_set off xs (k + 1) _ (by simp at h ⊢; omega)]
    simp only [Array.toList_setIfInBounds]
    have := list_set_seg cs.toList (off + k) x xs (by simp at h ⊢; omega)
    simpa [Nat.add_assoc] using this

theorem fill_cells (off : Nat) (v cells : Array Value) (h : off + v.size ≤ cells.size) :
    (v.zipIdx.foldl (fun cs (x : Value × Nat) => cs.setIfInBounds (off + x.2) x.1) cells).toList = cells.toList.take off ++ v.toList ++ cells.toList.drop (off + v.size) := by
  rw [← Array.foldl_toList]
  have := foldl_set off v.toList 0 cells (by simpa using h)
  simpa [Array.toList_zipIdx] using this

theorem fillP_ok (hs : Sim P n0 nt β σ s a w) {ctx : List (Nat × Bool)} (hf : Facts a ctx) {place : Nat → Option (Nat × TypeId)} {place' : Nat → Option (Nat × Nat)}
    (hpl : ∀ i off T, place i = some (off, T) → place' i = some (off, P.cellsOf T)) : ∀ {parts : List (Nat × Operand)} {cs cs' : List (AC0 E N)} {cells : Array Value} {m m' : Nat},
    RM.run s (fillP P place ctx parts cs) m = .ok (cs', m') → RelCs P n0 β σ s w cs cells.toList →
    ∃ cells', Instr.fill place' cells (parts.map fun (i, x) => (i, a.eval x)) = some cells' ∧ RelCs P n0 β σ s w cs' cells'.toList ∧ cs'.length = cs.length ∧
      ∀ n, Fresh a s n → n ∉ namesCs cs → n ∉ namesCs cs'
  | [], cs, cs', cells, m, m', h, hr => by cases RM.ret_ok h; exact ⟨cells, rfl, hr, rfl, fun n _ h => h⟩
  | (i, x) :: parts, cs, cs', cells, m, m', h, hr => by
    simp only [fillP] at h
    split at h
    · exact (RM.fail_ok h).elim
    · rename_i off T hp
      obtain ⟨v, m1, h1, h2⟩ := RM.bind_ok h
      obtain ⟨u, m2, h3, h4⟩ := RM.bind_ok h2
      have hg := RM.guard_ok h3
      simp only [Bool.and_eq_true] at hg
      have hsz := natBeq_iff.1 hg.1
      have hpos := natBlt_iff.1 hg.2
      obtain ⟨hv, hn⟩ := evV_ok hs hf h1
      split at h4
      · rename_i cs2 hcs2
        have hlen := RelCs.length hv.1
        have hvs : (a.eval x).cells.size = P.cellsOf T := by rw [← hsz, hlen]; simp
        obtain ⟨e1, e2⟩ := replaceAt_eq hcs2
        have hcl := RelCs.length hr
        have hrr := replaceAt_rel hcs2 hr hv.1
        simp only [List.map_cons, Instr.fill, hpl i off T hp, hvs]
        by_cases hfit : off + P.cellsOf T ≤ cells.size
        · have hne : ¬ (P.cellsOf T ≠ P.cellsOf T ∨ off + P.cellsOf T > cells.size) := by omega
          have hfc := fill_cells off (a.eval x).cells cells (by omega)
          have hrr' : RelCs P n0 β σ s w cs2 ((a.eval x).cells.zipIdx.foldl (fun cs (x : Value × Nat) => cs.setIfInBounds (off + x.2) x.1) cells).toList := by
            rw [hfc]; simpa using hrr
          obtain ⟨cells', f1, f2, f3, f4⟩ := fillP_ok hs hf hpl h4 hrr'
          refine ⟨cells', ?_, f2, ?_, fun n hf hc => f4 n hf (fun hx => (replaceAt_names hcs2 hx).elim hc (hn n hf))⟩
          · simpa [hfit, Nat.not_lt.2 hfit] using f1
          · rw [f3, e1]
            simp
            have : v.cs.length = P.cellsOf T := hsz
            have : cells.toList.length = cells.size := by simp
            omega
        · exfalso
          rcases e2 with h0 | h0
          · rw [h0] at hpos; simp at hpos
          · have : cells.toList.length = cells.size := by simp
            omega
      · exact (RM.fail_ok h4).elim


/-! ### Zero values -/

theorem zeroV_spec {T : TypeId} {z : Val (std E N)} (h : zeroV P T = some z) : ∃ i v, P.info? T = some i ∧ i.zero = some v ∧ (zeroValue T).run P w = .ok v w ∧
    RelVal P n0 β σ s w z v ∧ namesCs z.cs = [] ∧ ∀ u ∈ v.cells.toList, u.oneCell' = true := by
  unfold zeroV at h
  split at h
  · rename_i i hi
    split at h
    · rename_i v hv
      obtain ⟨r, n, o⟩ := constV_rel (n0 := n0) (β := β) (σ := σ) (s := s) (w := w) h
      exact ⟨i, v, hi, hv, by simp [zeroValue, typeInfo, hi, hv], r, n, o⟩
    · cases h
  · cases h

/-! ### Operators -/

theorem run_guarded_bin {op : BinOp} {T : TypeId} {x y : Operand} {u v r : Value} (h1 : (eqGuard op T x y u v).run P w = .ok () w) (h2 : (binOp op T u v).run P w = .ok r w) :
    (do eqGuard op T x y u v; binOp op T u v : Sem Value).run P w = .ok r w := by
  simp only [Sem.run_bind, h1, Result.andThen_ok, h2]

theorem opBin_ok {op : BinOp} {T yT : TypeId} {x y : Operand} {p q : Val (std E N)} {u v : Value} {as : List Bool} {r : AV (std E N)} {fr : List (Nat × Option (HEnt (std E N)))} {m m' : Nat}
    (hp : RelVal P n0 β σ s w p u) (hq : RelVal P n0 β σ s w q v) (hy : ∀ k n, y = .const (.int k n) → v = .int k n)
    (h : RM.run s (opBin P op T y p q) m = .ok ((as, r, fr), m')) (has : ∀ b ∈ as, b = true) :
    ∃ z, (do eqGuard op T x y u v; binOp op T u v : Sem Value).run P w = .ok z w ∧ RelAV P n0 β σ s w r z ∧ r.names = [] ∧ fr = [] := by
  obtain ⟨pa, pc⟩ := p
  obtain ⟨qa, qc⟩ := q
  unfold opBin at h
  simp only at h
  split at h
  · -- integers
    rename_i k i k' j
    have hu : u = .int k i := relVal_inv hp
    have hv : v = .int k' j := relVal_inv hq
    split at h
    · exact (RM.fail_ok h).elim
    · rename_i hk
      have := ikEq_iff.1 hk
      subst this
      subst hu; subst hv
      have hg : ∀ op, (eqGuard op T x y (.int k i) (.int k j)).run P w = .ok () w := fun op => eqGuard_plain op T x y _ _ rfl (by simp)
      split at h
      · cases RM.ret_ok h; exact ⟨_, run_guarded_bin (hg _) (by simp [binOp, Op.intArith]), relAV_one rfl, rfl, rfl⟩
      · cases RM.ret_ok h; exact ⟨_, run_guarded_bin (hg _) (by simp [binOp, Op.intArith]), relAV_one rfl, rfl, rfl⟩
      · cases RM.ret_ok h; exact ⟨_, run_guarded_bin (hg _) (by simp [binOp, Op.intArith]), relAV_one rfl, rfl, rfl⟩
      · have hj : (j : Int) ≠ 0 := by
          cases hn : isNonzero y with
          | true => obtain ⟨k2, n2, rfl, hn2⟩ := isNonzero_spec hn; have := hy _ _ rfl; cases this; exact hn2
          | false =>
            rw [hn] at h
            cases RM.ret_ok h
            have := has _ (List.mem_singleton.2 rfl)
            have h2 : (!((j : Int) == (0 : Int))) = true := this
            intro h0; rw [h0] at h2; simp at h2
        have hz : (binOp .quo T (.int k i) (.int k j)).run P w = .ok (.int k (k.wrap (Int.tdiv i j))) w := by simp [binOp, Op.intDiv, hj]
        cases hn : isNonzero y with
        | true => rw [hn] at h; cases RM.ret_ok h; exact ⟨_, run_guarded_bin (hg _) hz, relAV_one rfl, rfl, rfl⟩
        | false => rw [hn] at h; cases RM.ret_ok h; exact ⟨_, run_guarded_bin (hg _) hz, relAV_one rfl, rfl, rfl⟩
      · have hj : (j : Int) ≠ 0 := by
          cases hn : isNonzero y with
          | true => obtain ⟨k2, n2, rfl, hn2⟩ := isNonzero_spec hn; have := hy _ _ rfl; cases this; exact hn2
          | false =>
            rw [hn] at h
            cases RM.ret_ok h
            have := has _ (List.mem_singleton.2 rfl)
            have h2 : (!((j : Int) == (0 : Int))) = true := this
            intro h0; rw [h0] at h2; simp at h2
        have hz : (binOp .rem T (.int k i) (.int k j)).run P w = .ok (.int k (Int.tmod i j)) w := by simp [binOp, Op.intDiv, hj]
        cases hn : isNonzero y with
        | true => rw [hn] at h; cases RM.ret_ok h; exact ⟨_, run_guarded_bin (hg _) hz, relAV_one rfl, rfl, rfl⟩
        | false => rw [hn] at h; cases RM.ret_ok h; exact ⟨_, run_guarded_bin (hg _) hz, relAV_one rfl, rfl, rfl⟩
      · split at h
        · rename_i c hc
          cases RM.ret_ok h
          exact ⟨_, run_guarded_bin (hg _) (cmpI_rel hc T k), relAV_one rfl, rfl, rfl⟩
        · exact (RM.fail_ok h).elim
  · -- strings
    rename_i x1 y1
    have hu : u = .string x1 := relVal_inv hp
    have hv : v = .string y1 := relVal_inv hq
    subst hu; subst hv
    have hg : ∀ op, (eqGuard op T x y (.string x1) (.string y1)).run P w = .ok () w := fun op => eqGuard_plain op T x y _ _ rfl (by simp)
    split at h
    · cases RM.ret_ok h; exact ⟨_, run_guarded_bin (hg _) (by simp only [binOp_string_eql, Sem.run_pure]), relAV_one rfl, rfl, rfl⟩
    · cases RM.ret_ok h; exact ⟨_, run_guarded_bin (hg _) (by simp only [binOp_string_neq, Sem.run_pure]), relAV_one rfl, rfl, rfl⟩
    · cases RM.ret_ok h; exact ⟨_, run_guarded_bin (hg _) (by simp only [binOp_string_lss, Sem.run_pure]), relAV_one rfl, rfl, rfl⟩
    · cases RM.ret_ok h
      have h1 := has _ List.mem_cons_self
      have h2 := has _ (List.mem_cons_of_mem _ List.mem_cons_self)
      have h1 := of_decide_eq_true (show decide _ = true from h1)
      have h2 := of_decide_eq_true (show decide _ = true from h2)
      have h3 : ((ByteArray.size x1 : Nat) : Int) ≤ 17592186044416 := h1.2.1
      have h4 : ((ByteArray.size y1 : Nat) : Int) ≤ 17592186044416 := h2.2.1
      refine ⟨_, run_guarded_bin (hg _) ?_, relAV_one rfl, rfl, rfl⟩
      have h5 : ¬ (((ByteArray.size x1 + ByteArray.size y1 : Nat) : Int) > IntKind.i64.max) := by
        simp only [IntKind.max, IntKind.signed, IntKind.bits]; simp; omega
      simp [binOp, Op.stringOp]
      omega
    · exact (RM.fail_ok h).elim
  · -- the rest
    rename_i hni hns
    have gen : ∀ (b : Bool) (ts : List TypeId), tysOf P T = some ts → (pa == isAggT P T && qa == isAggT P T && eqOk P tyDepth T && !P.eqGuardType P.depth T && kindsOk P ts pc && kindsOk P ts qc) = true →
        eqCs (O := std E N) pc qc = some b → ∃ z : Unit, ((do eqGuard .eql T x y u v; binOp .eql T u v : Sem Value).run P w = .ok (.bool b) w ∧ (do eqGuard .neq T x y u v; binOp .neq T u v : Sem Value).run P w = .ok (.bool !b) w) ∧ z = () := by
      intro b ts hts hc he
      simp only [Bool.and_eq_true, beq_iff_eq, Bool.not_eq_true'] at hc
      obtain ⟨⟨⟨⟨⟨h1, h2⟩, h3⟩, h4⟩, h5⟩, h6⟩ := hc
      refine ⟨(), ?_, rfl⟩
      have heq := equalIn_rel (P := P) (n0 := n0) (β := β) (σ := σ) (s := s) (w := w) tyDepth 10000 T ts pc qc u.cells.toList v.cells.toList b (by simp [tyDepth]) h3 hts hp.1 hq.1 h5 h6 he
      cases hag : isAggT P T with
      | true =>
        rw [hag] at h1 h2
        subst h1; subst h2
        obtain ⟨us, rfl, _⟩ := relVal_agg hp
        obtain ⟨vs, rfl, _⟩ := relVal_agg hq
        have hm : ∀ xs : Array Value, mkVal P T (Value.agg xs).cells.toList = .agg xs := fun xs => by simp [mkVal, hag, Value.cells]
        rw [hm, hm] at heq
        exact ⟨run_guarded_bin (run_eqGuard_agg w _ T x y us vs h4) (by rw [run_eql_struct, heq]; rfl), run_guarded_bin (run_eqGuard_agg w _ T x y us vs h4) (by rw [run_neq_struct, heq]; rfl)⟩
      | false =>
        rw [hag] at h1 h2
        subst h1; subst h2
        have ou := hp.2
        have ov := hq.2
        simp only at ou ov
        have lp := RelCs.length hp.1
        have lq := RelCs.length hq.1
        rw [cells_one ou] at lp
        rw [cells_one ov] at lq
        match pc, qc, lp, lq with
        | [c1], [c2], _, _ =>
          have r1 := relVal_inv hp
          have r2 := relVal_inv hq
          have he2 : eqC (O := std E N) c1 c2 = some b := he
          unfold eqC at he2
          split at he2
          · exact (hni _ _ _ _ rfl rfl rfl rfl).elim
          · rename_i i j _ _
            cases he2
            have hu : u = .bool i := r1
            have hv : v = .bool j := r2
            subst hu; subst hv
            have hm : ∀ c : Bool, mkVal P T (Value.bool c).cells.toList = .bool c := fun c => by simp [mkVal, hag, Value.cells]
            rw [hm, hm] at heq
            exact ⟨run_guarded_bin (eqGuard_plain _ T x y _ _ rfl (by simp)) (by simp only [binOp, Op.equal, Op.maxDepth, Sem.run_bind, heq, Result.andThen_ok, Sem.run_pure]),
              run_guarded_bin (eqGuard_plain _ T x y _ _ rfl (by simp)) (by simp only [binOp, Op.equal, Op.maxDepth, Sem.run_bind, heq, Result.andThen_ok, Sem.run_pure])⟩
          · exact (hns _ _ rfl rfl rfl rfl).elim
          · cases he2
    split at h
    · exact (RM.fail_ok h).elim
    · rename_i ts hts
      split at h
      · rename_i b hc he
        cases RM.ret_ok h
        obtain ⟨z, hz, rfl⟩ := gen b ts hts hc he
        exact ⟨_, hz.1, relAV_one rfl, rfl, rfl⟩
      · rename_i b hc he
        cases RM.ret_ok h
        obtain ⟨z, hz, rfl⟩ := gen b ts hts hc he
        exact ⟨_, hz.2, relAV_one rfl, rfl, rfl⟩
      · exact (RM.fail_ok h).elim


/-! ### Addresses and elements -/

theorem run_asIntOf (k : IntKind) (i : Int) : (asIntOf (.int k i)).run P w = .ok (k, i) w := rfl

theorem opIndexAddr_ok (hs : Sim P n0 nt β σ s a w) {T : TypeId} {p : AC0 E N} {ix : Operand} {v : Value} {k : IntKind} {i : Int} {as : List Bool} {r : AV (std E N)}
    {fr : List (Nat × Option (HEnt (std E N)))} {m m' : Nat} (hp : RelC P n0 β σ s w p v) (hc : ∀ k' n, ix = .const (.int k' n) → i = n)
    (h : RM.run s (opIndexAddr P T p ix i) m = .ok ((as, r, fr), m')) (has : ∀ b ∈ as, b = true) :
    ∃ z, (Instr.indexAt T v (.int k i)).run P w = .ok z w ∧ RelAV P n0 β σ s w r z ∧ (∀ n ∈ r.names, n ∈ p.names) ∧ fr = [] := by
  unfold opIndexAddr at h
  split at h
  · -- an array
    rename_i n e hu
    obtain ⟨_, m1, hg, h2⟩ := RM.bind_ok h
    clear h
    obtain ⟨ti, hti⟩ := info_of_cells (natBlt_iff.1 (RM.guard_ok hg))
    have run : ∀ (blk o : Nat), v = .pointer (some ⟨blk, o, none⟩) → 0 ≤ i → i < (n : Int) →
        (Instr.indexAt T v (.int k i)).run P w = .ok (.pointer (some ⟨blk, o + i.toNat * P.cellsOf e, none⟩)) w := by
      intro blk o hv h0 h1
      subst hv
      simp [Instr.indexAt, run_asIntOf, run_underlying hu, Instr.sureAddr, h0, h1, run_sizeOf' hti, addr_add]
    split at h2
    · rename_i k' c
      have hic := hc _ _ rfl
      subst hic
      split at h2
      · rename_i p' hd hp'
        cases RM.ret_ok h2
        have hb : 0 ≤ i ∧ i < (n : Int) := of_decide_eq_true hd
        obtain ⟨blk, o, hv, hr, hn⟩ := addOff_rel hp' hp
        exact ⟨_, run blk o hv hb.1 hb.2, relAV_one hr, fun n hm => by simpa [AV.names, one, namesCs, hn] using hm, rfl⟩
      · exact (RM.fail_ok h2).elim
    · split at h2
      · rename_i b off
        cases RM.ret_ok h2
        have h1 : decide (0 ≤ i ∧ i < (n : Int)) = true := has _ List.mem_cons_self
        have hb : 0 ≤ i ∧ i < (n : Int) := of_decide_eq_true h1
        obtain ⟨blk, hv, hk⟩ := hp
        exact ⟨_, run blk off hv hb.1 hb.2, relAV_one ⟨hb.1, hb.2, blk, rfl, hk⟩, fun n hm => by simpa [AV.names, one, namesCs, AC.names] using hm, rfl⟩
      · exact (RM.fail_ok h2).elim
  · -- a slice
    rename_i e hu
    have run : ∀ (blk o len cap : Nat) (ts : List TypeId), tysOf P e = some ts → v = .slice (some ⟨blk, o, none⟩) len cap → 0 ≤ i → i < (len : Int) →
        (Instr.indexAt T v (.int k i)).run P w = .ok (.pointer (some ⟨blk, o + i.toNat * ts.length, none⟩)) w := by
      intro blk o len cap ts hts hv h0 h1
      obtain ⟨hsz, hpos⟩ := tysOf_size hts
      obtain ⟨ti, hti⟩ := info_of_cells (P := P) (t := e) (by omega)
      subst hv
      simp [Instr.indexAt, run_asIntOf, run_underlying hu, h0, h1, run_sizeOf' hti, addr_add, hsz]
    split at h
    · rename_i e' id
      obtain ⟨⟨eb, l, nb⟩, m1, hrow, h2⟩ := RM.bind_ok h
      obtain ⟨_, m2, hg, h3⟩ := RM.bind_ok h2
      clear h h2
      have he := natBeq_iff.1 (RM.guard_ok hg)
      subst he
      cases RM.ret_ok h3
      obtain ⟨m3, hrow⟩ := RM.h_ok hrow
      cases hh : s.getH id with
      | none => rw [hh] at hrow; exact (RM.fail_ok hrow).elim
      | some e1 =>
        rw [hh] at hrow
        have hrr := RM.ret_ok hrow
        simp only [Prod.mk.injEq] at hrr
        obtain ⟨rfl, rfl, rfl⟩ := hrr
        have h1 : decide (0 ≤ i ∧ i < ((List.length e1.l : Nat) : Int)) = true := has _ List.mem_cons_self
        have hb : 0 ≤ i ∧ i < ((List.length e1.l : Nat) : Int) := of_decide_eq_true h1
        obtain ⟨_, hk⟩ := hp
        obtain ⟨he1, ho⟩ := hk e1 hh
        obtain ⟨t, ts, ht, hts, hrl, hm⟩ := hs.M.H id e1 hh
        rcases ho with ⟨blk, cap, hsg, hv⟩ | ⟨_, hz, _⟩
        · rw [he1] at hts
          refine ⟨_, run blk 0 _ cap ts hts hv hb.1 hb.2, relAV_one ⟨hb.1, blk, _, rfl, fun h2 hh2 => ?_⟩, fun n hm => by simpa [AV.names, one, namesCs, AC.names] using hm, rfl⟩
          rw [hh] at hh2; cases hh2
          exact ⟨hb.2, ts, cap, by rw [he1]; exact hts, hsg, by omega⟩
        · rw [hz] at hb; omega
    · rename_i e' nw l
      obtain ⟨_, m2, hg, h3⟩ := RM.bind_ok h
      clear h
      have he := natBeq_iff.1 (RM.guard_ok hg)
      subst he
      cases RM.ret_ok h3
      have h1 : decide (0 ≤ i ∧ i < ((List.length l : Nat) : Int)) = true := has _ List.mem_cons_self
      have hb : 0 ≤ i ∧ i < ((List.length l : Nat) : Int) := of_decide_eq_true h1
      obtain ⟨t, ht, hrep⟩ := hp
      have hrep2 := hrep
      cases hrep with
      | @sl _ e2 ts a len cap _ vv ht' hts hl hr hc' hm hv =>
        rw [ht] at ht'; cases ht'
        rcases hm with hm | ⟨b, off, ha, hb1, hlt, hcell⟩
        · rw [hm] at hl; rw [hl] at hb; omega
        · subst ha
          refine ⟨_, run b off len cap ts hts rfl hb.1 (by rw [← hl]; exact hb.2), relAV_one ⟨hb.1, hb.2, t, ts, b, off, len, cap, ht, hts, hrep2, by simp⟩, fun n hm => by simp [AV.names, one, namesCs, AC.names] at hm, rfl⟩
    · cases RM.ret_ok h
      have h1 : (false : Bool) = true := has _ List.mem_cons_self
      cases h1
    · exact (RM.fail_ok h).elim
  · exact (RM.fail_ok h).elim

theorem opIndex_ok {T : TypeId} {p : Val (std E N)} {ix : Operand} {v : Value} {k : IntKind} {i : Int} {as : List Bool} {r : AV (std E N)}
    {fr : List (Nat × Option (HEnt (std E N)))} {m m' : Nat} (hp : RelVal P n0 β σ s w p v) (hc : ∀ k' n, ix = .const (.int k' n) → i = n)
    (h : RM.run s (opIndex P T p ix i) m = .ok ((as, r, fr), m')) (has : ∀ b ∈ as, b = true) :
    ∃ z, (Instr.index T v (.int k i)).run P w = .ok z w ∧ RelAV P n0 β σ s w r z ∧ (∀ n ∈ r.names, n ∈ namesCs p.cs) ∧ fr = [] := by
  obtain ⟨pa, pc⟩ := p
  unfold opIndex at h
  simp only at h
  split at h
  · -- a string
    rename_i x hu
    cases RM.ret_ok h
    have hv : v = .string x := relVal_inv hp
    subst hv
    have h1 : decide (0 ≤ i ∧ i < ((ByteArray.size x : Nat) : Int)) = true := has _ List.mem_cons_self
    have hb : 0 ≤ i ∧ i < ((ByteArray.size x : Nat) : Int) := of_decide_eq_true h1
    have hlt : i.toNat < ByteArray.size x := by omega
    refine ⟨_, ?_, relAV_one rfl, fun n hm => by simp [AV.names, one, namesCs, AC.names] at hm, rfl⟩
    have hg : x[i.toNat]? = some x[i.toNat] := ByteArray.getElem?_lt' x i.toNat hlt
    have hdat : x.data.toList.getD i.toNat 0 = x[i.toNat] := by
      have : i.toNat < x.data.toList.length := by simpa using hlt
      simp [List.getD, List.getElem?_eq_getElem this]
      rfl
    simp only [Instr.index, Sem.run_bind, run_asIntOf, Result.andThen_ok, run_underlying hu, hb.1, if_true, hg, Sem.run_pure, strAt, hdat]
  · -- an array in hand
    rename_i n e hu
    obtain ⟨vs, rfl, hr⟩ := relVal_agg hp
    split at h
    · rename_i k' c
      have hic := hc _ _ rfl
      subst hic
      split at h
      · rename_i r' hd hsl
        obtain ⟨_, m1, hg, h2⟩ := RM.bind_ok h
        clear h
        have hag := RM.guard_ok hg
        cases RM.ret_ok h2
        have hb : 0 ≤ i ∧ i < (n : Int) := of_decide_eq_true hd
        obtain ⟨e1, e2⟩ := sliceOf_eq hsl
        have hrr := RelCs.take (P.cellsOf e) (RelCs.drop (i.toNat * P.cellsOf e) hr)
        rw [← e1] at hrr
        obtain ⟨⟨d, hud⟩, _⟩ := aggOk_spec hag
        obtain ⟨ti, hti⟩ := info_of_underlying hud
        obtain ⟨z, hz, hrel⟩ := run_part hrr e2 hag
        exact ⟨z, by simp [Instr.index, run_asIntOf, run_underlying hu, hb.1, hb.2, run_sizeOf' hti, hz], hrel, fun n hm => namesCs_sliceOf hsl hm, rfl⟩
      · exact (RM.fail_ok h).elim
    · split at h
      · exact (RM.fail_ok h).elim
      · rename_i n
        split at h
        · rename_i r' hpk
          obtain ⟨_, m1, hg, h2⟩ := RM.bind_ok h
          clear h
          have hag := RM.guard_ok hg
          cases RM.ret_ok h2
          have h1 : decide (0 ≤ i ∧ i < ((n + 1 : Nat) : Int)) = true := has _ List.mem_cons_self
          have hb : 0 ≤ i ∧ i < ((n + 1 : Nat) : Int) := of_decide_eq_true h1
          have hrr := pickE_rel (P := P) (n0 := n0) (β := β) (σ := σ) (s := s) (w := w) (fun k => (vs.toList.drop (k * P.cellsOf e)).take (P.cellsOf e)) hpk hb.1 (by omega)
            (fun k c hk hc => by
              have := RelCs.take (P.cellsOf e) (RelCs.drop (k * P.cellsOf e) hr)
              rwa [← (sliceOf_eq hc).1] at this)
          have e2 : r'.length = P.cellsOf e := pickE_len (fun k c hc => (sliceOf_eq hc).2) hpk
          obtain ⟨⟨d, hud⟩, _⟩ := aggOk_spec hag
          obtain ⟨ti, hti⟩ := info_of_underlying hud
          obtain ⟨z, hz, hrel⟩ := run_part hrr e2 hag
          have hb2 : i < (n : Int) + 1 := by omega
          refine ⟨z, by simp [Instr.index, run_asIntOf, run_underlying hu, hb.1, hb2, run_sizeOf' hti, hz], hrel, fun q hm => ?_, rfl⟩
          obtain ⟨c, hc, hmc⟩ := pickE_names hpk q hm
          exact namesCs_sliceOf hc hmc
        · exact (RM.fail_ok h).elim
  · exact (RM.fail_ok h).elim

/-! ### Slice expressions -/

theorem zeroOr_spec {ctx : List (Nat × Bool)} {x : Option Operand} (h : zeroOr x = true) : x = none ∨ ∃ k, x = some (.const (.int k 0)) := by
  unfold zeroOr at h
  split at h
  · exact .inl rfl
  · rename_i k n; exact .inr ⟨k, by rw [of_decide_eq_true h]⟩
  · cases h

theorem bound_ok (hs : Sim P n0 nt β σ s a w) {ctx : List (Nat × Bool)} (hf : Facts a ctx) {d i : Int} {x : Option Operand} {m m' : Nat} (h : RM.run s (bound (O := std E N) ctx d x) m = .ok (i, m')) :
    (x = none ∧ i = d) ∨ ∃ o k, x = some o ∧ a.eval o = .int k i := by
  cases x with
  | none => exact .inl ⟨rfl, (RM.ret_ok h).symm⟩
  | some o => obtain ⟨k, hk⟩ := evI_ok hs hf h; exact .inr ⟨o, k, rfl, hk⟩

theorem run_sliceBound {k : IntKind} {i : Int} {y : Nat} {code : BoundsCode} (h0 : 0 ≤ i) (h1 : i ≤ (y : Int)) : (Instr.sliceBound (.int k i) y code).run P w = .ok i.toNat w := by
  simp [Instr.sliceBound, run_asIntOf, h0, h1]

/-- The bounds of a slice expression without a third one. -/
theorem run_sliceBounds {isSl : Bool} {len cap : Nat} {lo hi : Option Value} {l h : Int} (hlo : (lo = none ∧ l = 0) ∨ ∃ k, lo = some (.int k l)) (hhi : (hi = none ∧ h = len) ∨ ∃ k, hi = some (.int k h))
    (h0 : 0 ≤ l) (h1 : l ≤ h) (h2 : h ≤ (len : Int)) (h3 : len ≤ cap) : (Instr.sliceBounds isSl len cap lo hi none).run P w = .ok (l.toNat, h.toNat, cap) w := by
  have e2 : ((h.toNat : Nat) : Int) = h := by omega
  rcases hhi with ⟨rfl, rfl⟩ | ⟨k2, rfl⟩
  · rcases hlo with ⟨rfl, rfl⟩ | ⟨k1, rfl⟩
    · simp [Instr.sliceBounds]
    · simp [Instr.sliceBounds, run_sliceBound h0 h1]
  · have hb := fun code => run_sliceBound (P := P) (w := w) (k := k2) (i := h) (y := cap) (code := code) (by omega) (by omega)
    rcases hlo with ⟨rfl, rfl⟩ | ⟨k1, rfl⟩
    · cases isSl <;> simp [Instr.sliceBounds, hb]
    · have hl := fun code => run_sliceBound (P := P) (w := w) (k := k1) (i := l) (y := h.toNat) (code := code) h0 (by omega)
      cases isSl <;> simp [Instr.sliceBounds, hb, hl]

theorem Rep.sub {St : Nat → Prop} {t : TypeId} {av : Option Addr} {len cap : Nat} {l : Rows} (h : Rep P w St t (.slice av len cap) (.rows l)) {lo hi : Nat} (h1 : lo ≤ hi) (h2 : hi ≤ len) {e : TypeId} {ts : List TypeId}
    (ht : lkOf P t = .sl e) (hts : tysOf P e = some ts) :
    Rep P w St t (.slice (if cap = lo then av else av.map (·.add (lo * ts.length))) (hi - lo) (cap - lo)) (.rows ((l.take hi).drop lo)) := by
  cases h with
  | @sl _ e' ts' _ _ _ _ v ht' hts' hl hr hc hm hv =>
    rw [ht] at ht'; cases ht'
    rw [hts] at hts'; cases hts'
    have hlen : ((l.take hi).drop lo).length = hi - lo := by simp; omega
    have hrow : ∀ i, i < hi - lo → rowAt ((l.take hi).drop lo) i = rowAt l (lo + i) := fun i hi' => by
      simp only [rowAt, List.getD, List.getElem?_drop, List.getElem?_take]
      rw [if_pos (by omega)]
    refine .sl (fun i j => v (lo + i) j) ht hts hlen (fun r hr' => hr r (List.mem_of_mem_take (List.mem_of_mem_drop hr'))) (by omega) ?_ (fun i j t' hi' hj => ?_)
    · by_cases hz : hi - lo = 0
      · exact .inl hz
      · rcases hm with hm | ⟨b, off, ha, hb, hlt, hcell⟩
        · omega
        · refine .inr ⟨b, off + lo * ts.length, ?_, hb, hlt, fun i j hi' hj => ?_⟩
          · have : ¬ cap = lo := by omega
            rw [if_neg this, ha]
            simp [addr_add]
          · have := hcell (lo + i) j (by omega) hj
            rw [← this]
            congr 2
            rw [Nat.add_mul]; omega
    · have := hv (lo + i) j t' (by omega) hj
      unfold pvAt at this ⊢
      rwa [hrow i hi']


/-- Writes that freeze. -/
def FrOK (s : St0 E N) (fr : List (Nat × Option (HEnt (std E N)))) : Prop :=
  ∀ n v, (n, v) ∈ fr → ∃ h, s.getH n = some h ∧ v = some { h with frozen := true, dirty := true }

theorem applyA_fr {fr : List (Nat × Option (HEnt (std E N)))} : ∀ {l : List (Nat × HEnt (std E N))}, (∀ n v, (n, v) ∈ fr → ∃ h, alGet s.hp n = some h ∧ v = some { h with frozen := true, dirty := true }) →
    (∀ k h', alGet l k = some h' → ∃ h, alGet s.hp k = some h ∧ (h' = h ∨ h' = { h with frozen := true, dirty := true })) →
    ∀ k h', alGet (applyA l fr) k = some h' → ∃ h, alGet s.hp k = some h ∧ (h' = h ∨ h' = { h with frozen := true, dirty := true }) := by
  induction fr with
  | nil => intro l _ hl k h' hk; exact hl k h' hk
  | cons x fr ih =>
    intro l hfr hl k h' hk
    obtain ⟨n, v⟩ := x
    simp only [applyA] at hk
    refine ih (fun n v hm => hfr n v (List.mem_cons_of_mem _ hm)) (fun k h' hk => ?_) k h' hk
    rw [alGet_alSet] at hk
    split at hk
    · rename_i hkn
      obtain ⟨h, h1, h2⟩ := hfr n v List.mem_cons_self
      rw [h2] at hk
      cases hk
      exact ⟨h, by rw [hkn]; exact h1, .inr rfl⟩
    · exact hl k h' hk

theorem FrOK.get {fr : List (Nat × Option (HEnt (std E N)))} (h : FrOK s fr) {wr : Wr (std E N)} (hw : wr.hs = fr) (k : Nat) (h' : HEnt (std E N)) (hk : (s.apply wr).getH k = some h') :
    ∃ h, s.getH k = some h ∧ (h' = h ∨ h' = { h with frozen := true, dirty := true }) := by
  unfold State.apply State.getH at hk
  rw [hw] at hk
  exact applyA_fr h (fun k h' hk => ⟨h', hk, .inl rfl⟩) k h' hk

theorem FrOK.sub {fr : List (Nat × Option (HEnt (std E N)))} (h : FrOK s fr) {wr : Wr (std E N)} (hw : wr.hs = fr) (hb : wr.bs = []) : Sub s (s.apply wr) where
  b n e he := ⟨e, by rw [State.getB_apply0 s wr hb] at he; exact he, rfl⟩
  h n h' hk := by
    obtain ⟨h0, hh, h1⟩ := h.get hw n h' hk
    refine ⟨h0, hh, ?_⟩
    rcases h1 with rfl | rfl
    · exact ⟨rfl, rfl, rfl, id⟩
    · exact ⟨rfl, rfl, rfl, fun h => by cases h⟩

/-- A key that is frozen last is frozen. -/
theorem applyA_last {α : Type} {k : Nat} {v : Option α} {l : List (Nat × α)} {ws : List (Nat × Option α)} (h : ∀ x ∈ ws, x.1 = k → x.2 = v) (hm : ∃ x ∈ ws, x.1 = k) : alGet (applyA l ws) k = v := by
  induction ws generalizing l with
  | nil => obtain ⟨x, hx, _⟩ := hm; simp at hx
  | cons y ws ih =>
    obtain ⟨n, u⟩ := y
    simp only [applyA]
    by_cases hex : ∃ x ∈ ws, x.1 = k
    · exact ih (fun x hx => h x (List.mem_cons_of_mem _ hx)) hex
    · rw [alGet_applyA ws _ k (fun x hx he => hex ⟨x, hx, he⟩), alGet_alSet]
      obtain ⟨x, hx, he⟩ := hm
      rcases List.mem_cons.1 hx with rfl | hx
      · rw [if_pos he.symm]; exact h _ List.mem_cons_self he
      · exact (hex ⟨x, hx, he⟩).elim

/-- A frozen owned slice, as shared data. -/
theorem own_rep (m : Mem P n0 β σ s w) {id : Nat} {h : HEnt (std E N)} {v : Value} (hh : s.getH id = some h) (hfz : h.frozen = true) (ho : OwnV σ id h.l.length v) :
    ∃ t, lkOf P t = .sl h.e ∧ Rep P w (StB n0 β σ s h.nw) t v (.rows h.l) := by
  obtain ⟨t, ts, ht, hts, hrl, hm⟩ := m.H id h hh
  refine ⟨t, ht, ?_⟩
  rcases ho with ⟨blk, cap, hs, rfl⟩ | ⟨hs, hz, x, rfl⟩
  · rcases hm with ⟨hn, _⟩ | ⟨blk', cap', cells, el, hs', hheap, hel, hsz, hcap, hnw, u, hu, hrep⟩
    · rw [hn] at hs; cases hs
    · rw [hs'] at hs; cases hs
      refine .sl u ht hts rfl hrl hcap (.inr ⟨blk, 0, rfl, ⟨fun hin => ?_, hnw⟩, lt_of_heap hheap, fun i j hi hj => ?_⟩) hrep
      · rcases hin with ⟨b, e, he, hb⟩ | ⟨id', h', cap', hh', hf', hs2⟩
        · exact m.uX b e id h blk cap he hh hb hs'
        · have := m.uH id id' h h' blk cap cap' hh hh' hs' hs2
          subst this
          rw [hh] at hh'; cases hh'
          rw [hfz] at hf'; cases hf'
      · rw [cell_of_heap hheap]
        simpa using hu i j hi hj
  · have hl : h.l = [] := List.length_eq_zero_iff.1 hz
    rw [hl]
    exact .sl (fun _ _ => undef) ht hts (by simp) (by simp) (Nat.le_refl _) (.inl rfl) (fun i j t' hi => by omega)

theorem opSlice_ok (hs : Sim P n0 nt β σ s a w) {ctx : List (Nat × Bool)} (hf : Facts a ctx) {T : TypeId} {c : AC0 E N} {lo hi mx : Option Operand} {v : Value} {as : List Bool} {r : AV (std E N)}
    {fr : List (Nat × Option (HEnt (std E N)))} {m m' : Nat} (hp : RelC P n0 β σ s w c v) (h : RM.run s (opSlice P ctx T c lo hi mx) m = .ok ((as, r, fr), m')) (has : ∀ b ∈ as, b = true) :
    ∃ z, (Instr.sliceAt T v (lo.map a.eval) (hi.map a.eval) (mx.map a.eval)).run P w = .ok z w ∧ RelAV P n0 β σ (s.apply { hs := fr }) w r z ∧ r.names = [] ∧ FrOK s fr := by
  have frn : FrOK s ([] : List (Nat × Option (HEnt (std E N)))) := fun n v hm => by simp at hm
  have sub0 : ∀ {c : AC0 E N} {z : Value}, RelC P n0 β σ s w c z → RelC P n0 β σ (s.apply { hs := [] }) w c z := fun {c z} hr =>
    ((frn.sub (wr := { hs := [] }) rfl rfl).ext P (fun _ => False) β σ w).relC (fun _ _ => id) hr
  have notarr : ∀ {d : TypeDesc} {v : Value} {lo hi mx : Option Value}, P.underlying T = some d → (∀ n e, d ≠ .array n e) → (Instr.sliceAt T v lo hi mx).run P w = (Instr.slice T v lo hi mx).run P w := by
    intro d v lo hi mx hu hd
    unfold Instr.sliceAt
    rw [Sem.run_bind, run_underlying hu, Result.andThen_ok]
    cases d <;> first | rfl | exact (hd _ _ rfl).elim
  unfold opSlice at h
  split at h
  · -- three bounds, all of them 0
    rename_i m0
    split at h
    · rename_i e' e nw l hu h1 h2 h3
      split at h
      · rename_i hee
        have := natBeq_iff.1 hee
        subst this
        cases RM.ret_ok h
        obtain ⟨t, ht, hrep⟩ := hp
        cases hrep with
        | @sl _ e2 ts av len cap _ vv ht' hts hl hr hc hm hv =>
          rw [ht] at ht'; cases ht'
          obtain ⟨hsz, hpos⟩ := tysOf_size hts
          have hpos' := hpos
          rw [← hsz] at hpos'
          obtain ⟨ti, hti⟩ := info_of_cells hpos'
          simp only [Bool.and_eq_true] at h2
          have e1 := zeroOr_spec (ctx := ctx) h1
          have e2 : ∃ k, hi = some (.const (.int k 0)) := by
            rcases zeroOr_spec (ctx := ctx) h2.1 with rfl | h
            · simp at h2
            · exact h
          have e3 : ∃ k, (some m0 : Option Operand) = some (.const (.int k 0)) := by
            rcases zeroOr_spec (ctx := ctx) h3 with h | h
            · cases h
            · exact h
          obtain ⟨k2, rfl⟩ := e2
          obtain ⟨k3, e3⟩ := e3
          cases e3
          have hb := fun (k : IntKind) (y : Nat) code => run_sliceBound (P := P) (w := w) (k := k) (i := 0) (y := y) (code := code) (by omega) (by omega)
          refine ⟨.slice av 0 0, ?_, sub0 (relVal_one ⟨t, ts, ht, hts, av, rfl⟩ |> relVal_inv) |> relAV_one, rfl, frn⟩
          rw [notarr hu (by simp)]
          rcases e1 with rfl | ⟨k1, rfl⟩
          · simp [Instr.slice, run_underlying hu, Instr.sliceBounds, Act.eval, hb, run_sizeOf' hti]
          · simp [Instr.slice, run_underlying hu, Instr.sliceBounds, Act.eval, hb, run_sizeOf' hti]
      · exact (RM.fail_ok h).elim
    · exact (RM.fail_ok h).elim
  · split at h
    · -- a string
      rename_i hu
      split at h
      case h_2 => exact (RM.fail_ok h).elim
      rename_i x
      obtain ⟨l, m1, h1, h2⟩ := RM.bind_ok h
      obtain ⟨u, m2, h3, h4⟩ := RM.bind_ok h2
      cases RM.ret_ok h4
      have hv : v = .string x := hp
      subst hv
      have hb : decide (0 ≤ (l : Int) ∧ (l : Int) ≤ u ∧ u ≤ ((ByteArray.size x : Nat) : Int)) = true := has _ List.mem_cons_self
      have hb := of_decide_eq_true hb
      have b1 := bound_ok hs hf h1
      have b2 := bound_ok hs hf h3
      have hsb := run_sliceBounds (P := P) (w := w) (isSl := false) (len := ByteArray.size x) (cap := ByteArray.size x) (lo := lo.map a.eval) (hi := hi.map a.eval) (l := l) (h := u)
        (by rcases b1 with ⟨rfl, rfl⟩ | ⟨o, k, rfl, hk⟩
            · exact .inl ⟨rfl, rfl⟩
            · exact .inr ⟨k, by simp [hk]⟩)
        (by rcases b2 with ⟨rfl, rfl⟩ | ⟨o, k, rfl, hk⟩
            · exact .inl ⟨rfl, rfl⟩
            · exact .inr ⟨k, by simp [hk]⟩) hb.1 hb.2.1 hb.2.2 (Nat.le_refl _)
      refine ⟨_, ?_, relAV_one (c := .str _) rfl, rfl, frn⟩
      rw [notarr hu (by simp)]
      simp [Instr.slice, run_underlying hu, hsb]
    · -- a slice
      rename_i e' hu
      obtain ⟨⟨e, l, nw⟩, m1, hrow, h2⟩ := RM.bind_ok h
      obtain ⟨_, m2, hg, h3⟩ := RM.bind_ok h2
      obtain ⟨lb, m3, h4, h5⟩ := RM.bind_ok h3
      obtain ⟨ub, m4, h6, h7⟩ := RM.bind_ok h5
      obtain ⟨lb, rfl⟩ : ∃ j : Int, j = lb := ⟨lb, rfl⟩
      obtain ⟨ub, rfl⟩ : ∃ j : Int, j = ub := ⟨ub, rfl⟩
      have hee := natBeq_iff.1 (RM.guard_ok hg)
      have b1 := bound_ok hs hf h4
      have b2 := bound_ok hs hf h6
      -- what the machine does at a slice that holds `l`
      have run : ∀ (av : Option Addr) (len cap : Nat) (ts : List TypeId), v = .slice av len cap → tysOf P e' = some ts → l.length = len → len ≤ cap →
          0 ≤ lb → lb ≤ ub → ub ≤ ((List.length l : Nat) : Int) →
          (Instr.sliceAt T v (lo.map a.eval) (hi.map a.eval) none).run P w =
            .ok (.slice (if cap = Int.toNat lb then av else av.map (·.add (Int.toNat lb * ts.length))) (Int.toNat ub - Int.toNat lb) (cap - Int.toNat lb)) w := by
        intro av len cap ts hv hts hl hc c1 c2 c3
        obtain ⟨hsz, hpos⟩ := tysOf_size hts
        obtain ⟨ti, hti⟩ := info_of_cells (P := P) (t := e') (by omega)
        subst hv
        have hsb := run_sliceBounds (P := P) (w := w) (isSl := true) (len := len) (cap := cap) (lo := lo.map a.eval) (hi := hi.map a.eval) (l := lb) (h := ub)
          (by rcases b1 with ⟨rfl, rfl⟩ | ⟨o, k, rfl, hk⟩
              · exact .inl ⟨rfl, rfl⟩
              · exact .inr ⟨k, by simp [hk]⟩)
          (by rcases b2 with ⟨rfl, rfl⟩ | ⟨o, k, rfl, hk⟩
              · exact .inl ⟨rfl, by show ((List.length l : Nat) : Int) = _; rw [hl]⟩
              · exact .inr ⟨k, by simp [hk]⟩) c1 c2 (by rw [← hl]; exact c3) hc
        rw [notarr hu (by simp)]
        simp [Instr.slice, run_underlying hu, hsb, run_sizeOf' hti, hsz]
      cases c with
      | own e0 id =>
        obtain ⟨m5, hrow⟩ := RM.h_ok hrow
        obtain ⟨m6, h8⟩ := RM.h_ok h7
        cases hh : s.getH id with
        | none => rw [hh] at hrow; exact (RM.fail_ok hrow).elim
        | some en =>
          rw [hh] at hrow h8
          have hrr := RM.ret_ok hrow
          simp only [Prod.mk.injEq] at hrr
          obtain ⟨rfl, rfl, rfl⟩ := hrr
          subst hee
          have hr8 := RM.ret_ok h8
          simp only [Prod.mk.injEq] at hr8
          obtain ⟨rfl, rfl, rfl⟩ := hr8
          have hb : decide (0 ≤ lb ∧ lb ≤ ub ∧ ub ≤ ((List.length en.l : Nat) : Int)) = true := has _ List.mem_cons_self
          have hb := of_decide_eq_true hb
          have frk : FrOK s [(id, some { en with frozen := true, dirty := true })] := fun n v hm => by
            simp only [List.mem_singleton, Prod.mk.injEq] at hm
            obtain ⟨rfl, rfl⟩ := hm
            exact ⟨en, hh, rfl⟩
          have sub := frk.sub (wr := { hs := [(id, some { en with frozen := true, dirty := true })] }) rfl rfl
          have hm1 := sub.mem hs.M
          have hget : (s.apply { hs := [(id, some { en with frozen := true, dirty := true })] }).getH id = some { en with frozen := true, dirty := true } := by
            unfold State.apply State.getH
            simp only [applyA, alGet_alSet, if_true]
          obtain ⟨_, hk⟩ := hp
          obtain ⟨he1, ho⟩ := hk en hh
          obtain ⟨t, ht, hrep⟩ := own_rep (h := { en with frozen := true, dirty := true }) hm1 hget rfl ho
          obtain ⟨t2, ts, ht2, hts, _⟩ := hs.M.H id en hh
          cases hv : v with
          | slice av len cap =>
            rw [hv] at hrep
            have hlen : List.length en.l = len := by cases hrep; assumption
            have hc : len ≤ cap := by cases hrep; assumption
            have hsub := Rep.sub hrep (lo := Int.toNat lb) (hi := Int.toNat ub) (by have := hb.2.1; omega) (by have := hb.2.2; omega) ht hts
            rw [← hv]
            exact ⟨_, run av len cap ts hv hts hlen hc hb.1 hb.2.1 hb.2.2, relAV_one ⟨t, ht, hsub⟩, rfl, frk⟩
          | _ => rw [hv] at hrep; cases hrep
      | imm e0 nw0 l0 =>
        have hrr := RM.ret_ok hrow
        simp only [Prod.mk.injEq] at hrr
        obtain ⟨rfl, rfl, rfl⟩ := hrr
        subst hee
        cases RM.ret_ok h7
        have hb : decide (0 ≤ lb ∧ lb ≤ ub ∧ ub ≤ ((List.length l0 : Nat) : Int)) = true := has _ List.mem_cons_self
        have hb := of_decide_eq_true hb
        obtain ⟨t, ht, hrep⟩ := hp
        have hrep2 := hrep
        cases hrep with
        | @sl _ e2 ts av len cap _ vv ht' hts hl hr hc hm hv =>
          rw [ht] at ht'; cases ht'
          have hsub := Rep.sub hrep2 (lo := Int.toNat lb) (hi := Int.toNat ub) (by have := hb.2.1; omega) (by have := hb.2.2; omega) ht hts
          exact ⟨_, run av len cap ts rfl hts hl hc hb.1 hb.2.1 hb.2.2, relAV_one (sub0 ⟨t, ht, hsub⟩), rfl, frn⟩
      | nil e0 =>
        have hrr := RM.ret_ok hrow
        simp only [Prod.mk.injEq] at hrr
        obtain ⟨rfl, rfl, rfl⟩ := hrr
        subst hee
        cases RM.ret_ok h7
        have hb : decide (0 ≤ lb ∧ lb ≤ ub ∧ ub ≤ ((List.length ([] : Rows) : Nat) : Int)) = true := has _ List.mem_cons_self
        have hb := of_decide_eq_true hb
        obtain ⟨t, ts, ht, hts, av, rfl⟩ := hp
        have hrep : Rep P w (StB n0 β σ s true) t (.slice av 0 0) (.rows []) := .sl (fun _ _ => undef) ht hts rfl (by simp) (Nat.le_refl _) (.inl rfl) (fun i j t' hi => by omega)
        have hsub := Rep.sub hrep (lo := Int.toNat lb) (hi := Int.toNat ub) (by have := hb.2.1; omega) (by have := hb.2.2; simp at this; omega) ht hts
        exact ⟨_, run av 0 0 ts rfl hts rfl (Nat.le_refl _) hb.1 hb.2.1 hb.2.2, relAV_one (sub0 ⟨t, ht, hsub⟩), rfl, frn⟩
      | int k i => exact (RM.fail_ok hrow).elim
      | bool b => exact (RM.fail_ok hrow).elim
      | str x => exact (RM.fail_ok hrow).elim
      | ptr b off => exact (RM.fail_ok hrow).elim
      | aptr b off n sz i inner => exact (RM.fail_ok hrow).elim
      | eptr id i off => exact (RM.fail_ok hrow).elim
      | iptr e nw l i off => exact (RM.fail_ok hrow).elim
      | fn f caps => exact (RM.fail_ok hrow).elim
      | nilptr => exact (RM.fail_ok hrow).elim
    · exact (RM.fail_ok h).elim

end
end Go.Px
