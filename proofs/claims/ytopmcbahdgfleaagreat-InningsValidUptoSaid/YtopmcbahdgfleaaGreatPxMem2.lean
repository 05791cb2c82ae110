/-
Px: all operations that make memory.
-/
import Derived.Test.YtopmcbahdgfleaaGreatPxMem
namespace Go.Px
set_option linter.unusedVariables false
set_option linter.unusedSimpArgs false

section
variable {E : Env} {N : Nat} {P : Program} {n0 : Nz} {nt : Nat} {β : Nat → Option Nat} {σ : Nat → Option (Nat × Nat)} {s s' : St0 E N} {a : Act} {w w' : World}

/-- What an operation that makes memory comes to. -/
def MadeOK (P : Program) (n0 : Nz) (β : Nat → Option Nat) (σ : Nat → Option (Nat × Nat)) (s : St0 E N) (a : Act) (w : World) (o : Oper) (id : Nat) (c : AC0 E N) (wr : Wr (std E N)) : Prop :=
  ∃ z β' σ' w', (execOp a.eval o).run P w = .ok (.value z) w' ∧ Mem P n0 β' σ' (s.apply wr) w' ∧ Ext P (· = id) β σ s w β' σ' (s.apply wr) w' ∧ Tidy a (· = id) s (s.apply wr) ∧
    RelC P n0 β' σ' (s.apply wr) w' c z ∧ (∀ n, Fresh a s n → n ≠ id → n ∉ c.names) ∧ wr.ts = []

theorem box_made (hs : Sim P n0 nt β σ s a w) {id : Nat} (hid : Fresh a s id) {o : Oper} {T : TypeId} {cs : List (AC0 E N)} {v : Value}
    (hr : RelCs P n0 β σ s w cs v.cells.toList) (hcn : ∀ n, Fresh a s n → n ∉ namesCs cs)
    (hex : (execOp a.eval o).run P w = .ok (.value (.pointer (some ⟨w.heap.size, 0, none⟩))) (w.alloc (.cells v.cells T))) :
    MadeOK P n0 β σ s a w o id (.ptr id 0) { bs := [(id, some { cs, dirty := true })] } := by
  obtain ⟨m1, x1⟩ := new_box hs.M hid hr (hcn id hid) T (wr := { bs := [(id, some { cs, dirty := true })] }) rfl rfl
  refine ⟨_, _, σ, _, hex, m1, x1, new_box_tidy hcn rfl rfl rfl, ⟨w.heap.size, rfl, fun e he => upd_same _ _ _⟩, fun n _ hn => by simpa [AC.names] using hn, rfl⟩

/-- The header of an owned slice that was just made. -/
theorem own_header {id blk cap : Nat} {h : HEnt (std E N)} {σ' : Nat → Option (Nat × Nat)} {s' : St0 E N} {w' : World} (hg : s'.getH id = some h) (hs : σ' id = some (blk, cap)) {n : Nat} (hn : n = h.l.length) :
    RelC P n0 β σ' s' w' (.own h.e id) (.slice (some ⟨blk, 0, none⟩) n cap) :=
  ⟨⟨_, _, _, rfl⟩, fun h2 hh2 => by rw [hg] at hh2; cases hh2; exact ⟨rfl, .inl ⟨blk, cap, hs, by rw [hn]⟩⟩⟩

theorem buildSlice_made (hs : Sim P n0 nt β σ s a w) {ctx : List (Nat × Bool)} (hf : Facts a ctx) {id : Nat} (hid : Fresh a s id) {o : Oper} {T : TypeId} {len : Nat} {parts : Array (Nat × Operand)}
    (hop : o.op = .buildSlice T len parts) {as : List Bool} {c : AC0 E N} {wr : Wr (std E N)} {m m' : Nat} (h : RM.run s (opMem P ctx id (.buildSlice T len parts)) m = .ok ((as, c, wr), m')) :
    MadeOK P n0 β σ s a w o id c wr := by
  simp only [opMem] at h
  split at h
  · exact (RM.fail_ok h).elim
  · rename_i e he
    split at h
    · rename_i z ts hz hts
      obtain ⟨_, m1, h1, h2⟩ := RM.bind_ok h
      obtain ⟨cs, m2, h3, h4⟩ := RM.bind_ok h2
      obtain ⟨⟨rows, fr, nw⟩, m3, h5, h6⟩ := RM.bind_ok h4
      obtain ⟨_, m4, h7, h8⟩ := RM.bind_ok h6
      have hr8 := RM.ret_ok h8
      simp only [Prod.mk.injEq] at hr8
      obtain ⟨_, rfl, rfl⟩ := hr8
      have hg := RM.guard_ok h1
      simp only [Bool.and_eq_true] at hg
      have hlim : len * P.cellsOf e ≤ 100000 := Nat.le_of_ble_eq_true hg.1
      have hzl := natBeq_iff.1 hg.2
      have hk := RM.guard_ok h7
      have hu := elemT_sl he
      obtain ⟨hsz, hpos⟩ := tysOf_size hts
      obtain ⟨ti, v, hi, hiz, hzv, hrz, hnz, hoz⟩ := zeroV_spec (n0 := n0) (β := β) (σ := σ) (s := s) (w := w) hz
      have hvl : v.cells.size = P.cellsOf e := by have := RelCs.length hrz.1; simp at this; omega
      have hinit : RelCs P n0 β σ s w (repL len z.cs) ((Array.range (len * P.cellsOf e)).map (v.cells[· % v.cells.size]!)).toList := by
        rw [← hvl, made_eq v.cells (by omega) len]
        exact repL_rel hrz.1 len
      obtain ⟨cells', f1, f2, f3, f4⟩ := fillP_ok hs hf (place := fun i => some (i * P.cellsOf e, e)) (place' := fun i => some (i * P.cellsOf e, P.cellsOf e)) (fun i off T hp => by
          simp only [Option.some.injEq, Prod.mk.injEq] at hp
          obtain ⟨rfl, rfl⟩ := hp
          rfl) h3 hinit
      have hcsl : cs.length = len * ts.length := by rw [f3, repL_length, hzl, hsz]
      have hcl : cells'.size = len * ts.length := by have := RelCs.length f2; simp at this; omega
      have hcn : ∀ n, Fresh a s n → n ∉ namesCs cs := fun n hn => f4 n hn (by
        rw [namesCs_sub]
        rintro ⟨c, hc, hm⟩
        have : ∀ k, c ∈ repL k z.cs → c ∈ z.cs := by
          intro k
          induction k with
          | zero => intro h; simp [repL] at h
          | succ k ih => intro h; simp only [repL, List.mem_append] at h; exact h.elim (fun h => h) ih
        have h2 := namesCs_sub.2 ⟨c, this len hc, hm⟩
        rw [hnz] at h2; simp at h2)
      -- the rows
      have hch : ∀ i, i < len → (chunks (P.cellsOf e) len cs)[i]? = some ((cs.drop (i * ts.length)).take ts.length) := fun i hi => by rw [chunks_get _ _ _ _ hi, hsz]
      have hcv : ∀ i, i < len → (chunks (P.cellsOf e) len cells'.toList)[i]? = some ((cells'.toList.drop (i * ts.length)).take ts.length) := fun i hi => by rw [chunks_get _ _ _ _ hi, hsz]
      obtain ⟨g1, g2, g3, g5, g4⟩ := toRows_ok hs.M (css := chunks (P.cellsOf e) len cs) (vss := chunks (P.cellsOf e) len cells'.toList) (by rw [chunks_length, chunks_length]) (fun i c1 v1 hc1 hv1 => by
        have hi : i < len := by have := (List.getElem?_eq_some_iff.1 hc1).1; rw [chunks_length] at this; exact this
        rw [hch i hi] at hc1; rw [hcv i hi] at hv1
        cases hc1; cases hv1
        exact RelCs.take _ (RelCs.drop _ f2)) h5
      have hrl : rows.length = len := by rw [g3, chunks_length]
      have hmulle : ∀ i j, i < len → j < ts.length → i * ts.length + j < cells'.size := fun i j hi hj => by
        rw [hcl]
        have : (i + 1) * ts.length ≤ len * ts.length := Nat.mul_le_mul_right _ hi
        rw [Nat.add_mul, Nat.one_mul] at this; omega
      have key := new_own hs.M hid g1.pre (h := { e, frozen := false, nw, l := rows.map (·.map Leaf.pv), dirty := true })
        (wr := { hs := fr ++ [(id, some { e, frozen := false, nw, l := rows.map (·.map Leaf.pv), dirty := true })] }) rfl rfl rfl rfl rfl (Grow.refl w) (cells := cells') (cap := len) (t := T) (ts := ts)
        (lkOf_sl.2 hu) hts (fun r hr => by
          obtain ⟨l, hl, rfl⟩ := List.mem_map.1 hr
          obtain ⟨i, hi, hget⟩ := List.mem_iff_getElem.1 hl
          have hi' : i < len := by omega
          have := g5 i l _ (by rw [List.getElem?_eq_getElem hi, hget]) (hch i hi')
          rw [List.length_map, this, List.length_take, List.length_drop, hcsl]
          have : (i + 1) * ts.length ≤ len * ts.length := Nat.mul_le_mul_right _ hi'
          rw [Nat.add_mul, Nat.one_mul] at this; omega) hcl (by simp [hrl]) hs.n0le (fun i j => cells'.getD (i * ts.length + j) undef)
        (fun i j hi hj => by
          have hi' : i < len := by simpa [hrl] using hi
          have := hmulle i j hi' hj
          simp [this])
        (fun i j t' hi hj => by
          have hi' : i < len := by simpa [hrl] using hi
          have hj' : j < ts.length := (List.getElem?_eq_some_iff.1 hj).1
          have hlt := hmulle i j hi' hj'
          refine g4 ts (s.apply { hs := fr }) hk (g1.sub rfl rfl) (g1.frz rfl) nw (fun h => h) i j t' _ _ (hcv i hi') hj ?_
          rw [List.getElem?_take, if_pos hj', List.getElem?_drop]
          simp [hlt])
      obtain ⟨k1, k2, k3, k4⟩ := key
      refine ⟨.slice (some ⟨w.heap.size, 0, none⟩) len len, β, _, _, ?_, k1, k2, k3, ?_, fun n _ hn => by simpa [AC.names] using hn, rfl⟩
      · refine (exec_m (x := Instr.buildSlice T len (parts.map fun (i, x) => (i, a.eval x))) (by simp [execOp, hop]) ?_)
        have hl : (parts.map fun (i, x) => (i, a.eval x)).toList = parts.toList.map fun (i, x) => (i, a.eval x) := by simp
        have hnl : ¬ (len * P.cellsOf e > 2 ^ 24) := by omega
        by_cases h0 : len * P.cellsOf e = 0
        · have hr0 : (Array.range (len * P.cellsOf e)).map (v.cells[· % v.cells.size]!) = #[] := by rw [h0]; simp [Array.range_zero']
          have hr1 : (Array.range (len * P.cellsOf e)).map ((#[] : Array Value)[· % (#[] : Array Value).size]!) = #[] := by rw [h0]; simp [Array.range_zero']
          rw [hr0] at f1
          simp [Instr.buildSlice, run_underlying hu, run_sizeOf' hi, hnl, h0, hl, f1, newRow, Array.range_zero']
        · simp [Instr.buildSlice, run_underlying hu, run_sizeOf' hi, hnl, h0, hl, f1, newRow, hzv]
      · exact own_header k4 (upd_same _ _ _) (by simp [hrl])
    · exact (RM.fail_ok h).elim


theorem small_spec {n : Int} {b : Nat} (h : decide (0 ≤ n ∧ n ≤ 17592186044416 ∧ n * (b : Int) ≤ 17592186044416 ∧ b ≤ 1048576) = true) : 0 ≤ n ∧ n ≤ 17592186044416 ∧ n * (b : Int) ≤ 17592186044416 ∧ b ≤ 1048576 := of_decide_eq_true h

theorem sameOpnd_eval {x y : Operand} (h : sameOpnd x y = true) (k : IntKind) (i : Int) (hx : a.eval x = .int k i) : ∃ k', a.eval y = .int k' i := by
  unfold sameOpnd at h
  split at h
  · have := natBeq_iff.1 h; subst this; exact ⟨k, hx⟩
  · rename_i k1 n1 k2 n2
    have := of_decide_eq_true h
    subst this
    have hx' : Value.int k1 n1 = .int k i := hx
    cases hx'
    exact ⟨k2, rfl⟩
  · cases h

theorem isScalar_names : ∀ {cs : List (AC0 E N)}, cs.all isScalar = true → namesCs cs = []
  | [], _ => rfl
  | c :: cs, h => by
    simp only [List.all_cons, Bool.and_eq_true] at h
    have h1 : c.names = [] := by cases c <;> first | rfl | (cases h.1)
    simp [namesCs, h1, isScalar_names h.2]

theorem toLfs_scalar : ∀ {cs : List (AC0 E N)} {ls : List SLeaf} {fr : List (Nat × Option (HEnt (std E N)))} {nw : Bool} {k k' : Nat}, cs.all isScalar = true →
    RM.run s (toLfs (O := std E N) cs) k = .ok ((ls, fr, nw), k') → fr = [] ∧ nw = true
  | [], ls, fr, nw, k, k', _, h => by
    have hr := RM.ret_ok h
    simp only [Prod.mk.injEq] at hr
    exact ⟨hr.2.1.symm, hr.2.2.symm⟩
  | c :: cs, ls, fr, nw, k, k', hc, h => by
    simp only [List.all_cons, Bool.and_eq_true] at hc
    obtain ⟨⟨l, f1, n1⟩, k1, h1, h2⟩ := RM.bind_ok h
    obtain ⟨⟨ls2, f2, n2⟩, k2, h3, h4⟩ := RM.bind_ok h2
    have hr := RM.ret_ok h4
    simp only [Prod.mk.injEq] at hr
    obtain ⟨_, rfl, rfl⟩ := hr
    obtain ⟨rfl, rfl⟩ := toLfs_scalar hc.2 h3
    have : f1 = [] ∧ n1 = true := by
      cases c <;> first
        | (have hr := RM.ret_ok h1; simp only [Prod.mk.injEq] at hr; exact ⟨hr.2.1.symm, hr.2.2.symm⟩)
        | (cases hc.1)
    obtain ⟨rfl, rfl⟩ := this
    exact ⟨rfl, rfl⟩

theorem makeSlice_made (hs : Sim P n0 nt β σ s a w) {ctx : List (Nat × Bool)} (hf : Facts a ctx) {id : Nat} (hid : Fresh a s id) {o : Oper} {T : TypeId} {len cap : Operand}
    (hop : o.op = .makeSlice T len cap) {as : List Bool} {c : AC0 E N} {wr : Wr (std E N)} {m m' : Nat} (h : RM.run s (opMem P ctx id (.makeSlice T len cap)) m = .ok ((as, c, wr), m')) (has : ∀ b ∈ as, b = true) :
    MadeOK P n0 β σ s a w o id c wr := by
  simp only [opMem] at h
  split at h
  · exact (RM.fail_ok h).elim
  · rename_i e he
    split at h
    · rename_i z ti ts hz hi hts
      obtain ⟨n, m1, h1, h2⟩ := RM.bind_ok h
      obtain ⟨_, m2, h3, h4⟩ := RM.bind_ok h2
      obtain ⟨⟨ls, fr, nw⟩, m3, h5, h6⟩ := RM.bind_ok h4
      have hr6 := RM.ret_ok h6
      simp only [Prod.mk.injEq] at hr6
      obtain ⟨rfl, rfl, rfl⟩ := hr6
      obtain ⟨n, rfl⟩ : ∃ j : Int, j = n := ⟨n, rfl⟩
      have hg := RM.guard_ok h3
      simp only [Bool.and_eq_true] at hg
      obtain ⟨⟨hsame, hk⟩, hsc⟩ := hg
      have hb := small_spec (n := n) (b := ti.bytes) (has _ List.mem_cons_self)
      have hu := elemT_sl he
      obtain ⟨hsz, hpos⟩ := tysOf_size hts
      obtain ⟨ti', v, hi', hiz, hzv, hrz, hnz, hoz⟩ := zeroV_spec (n0 := n0) (β := β) (σ := σ) (s := s) (w := w) hz
      rw [hi] at hi'; cases hi'
      obtain ⟨rfl, rfl⟩ := toLfs_scalar hsc h5
      have frn : FrOK s ([] : List (Nat × Option (HEnt (std E N)))) := fun n v hm => by simp at hm
      obtain ⟨_, _, hll, hlf⟩ := toLfs_ok hs.M hrz.1 h5
      have hk1 : rowKind1 P ts z.cs = true := by
        simp only [rowKinds] at hk
        split at hk
        · assumption
        · cases hk
      have hzl : z.cs.length = ts.length := by
        have : ∀ {ts : List TypeId} {cs : List (AC0 E N)}, rowKind1 P ts cs = true → cs.length = ts.length := by
          intro ts
          induction ts with
          | nil => intro cs h; cases cs with
                   | nil => rfl
                   | cons => simp [rowKind1] at h
          | cons t ts ih => intro cs h; cases cs with
                   | nil => simp [rowKind1] at h
                   | cons c cs => simp only [rowKind1] at h; split at h
                                  · simp [ih h]
                                  · cases h
        exact this hk1
      have hvl : v.cells.size = ts.length := by have := RelCs.length hrz.1; simp at this; omega
      have htz : ti.size = ts.length := by rw [← hsz]; simp [Program.cellsOf, hi]
      obtain ⟨k1, hk1'⟩ := evI_ok hs hf h1
      obtain ⟨k2, hk2'⟩ := sameOpnd_eval hsame _ _ hk1'
      have hcells : (madeCells v.cells (n.toNat * ti.size)).toList = repL n.toNat v.cells.toList := by
        rw [htz, ← hvl]; exact made_eq v.cells (by omega) _
      have hml : (madeCells v.cells (n.toNat * ti.size)).size = n.toNat * ts.length := by rw [size_madeCells, htz]
      have hmulle : ∀ i j, i < n.toNat → j < ts.length → i * ts.length + j < n.toNat * ts.length := fun i j hi hj => by
        have : (i + 1) * ts.length ≤ n.toNat * ts.length := Nat.mul_le_mul_right _ hi
        rw [Nat.add_mul, Nat.one_mul] at this; omega
      have hcell : ∀ i j, i < n.toNat → j < ts.length → (madeCells v.cells (n.toNat * ti.size))[i * ts.length + j]? = v.cells[j]? := fun i j hi' hj => by
        rw [← Array.getElem?_toList, hcells, repL_get (by simp; omega) _ _ (by simpa [hvl] using hmulle i j hi' hj)]
        have : (i * ts.length + j) % v.cells.toList.length = j := by
          simp only [Array.length_toList, hvl]
          rw [Nat.add_comm, Nat.mul_comm, Nat.add_mul_mod_self_left]
          exact Nat.mod_eq_of_lt hj
        rw [this]; simp
      have key := new_own hs.M hid frn.pre (h := { e, frozen := false, nw := true, l := List.replicate n.toNat (ls.map Leaf.pv), dirty := true })
        (wr := { hs := [(id, some { e, frozen := false, nw := true, l := List.replicate n.toNat (ls.map Leaf.pv), dirty := true })] }) rfl rfl rfl rfl rfl (Grow.refl w)
        (cells := madeCells v.cells (n.toNat * ti.size)) (cap := n.toNat) (t := T) (ts := ts)
        (lkOf_sl.2 hu) hts (fun r hr => by
          rw [List.eq_of_mem_replicate hr, List.length_map, hll, hzl]) hml (by simp) hs.n0le (fun i j => v.cells.getD j undef)
        (fun i j hi' hj => by
          have hi2 : i < n.toNat := by simpa using hi'
          rw [hcell i j hi2 hj]
          simp [hvl, hj])
        (fun i j t' hi' hj => by
          have hi2 : i < n.toNat := by simpa using hi'
          have hj' : j < ts.length := (List.getElem?_eq_some_iff.1 hj).1
          have := hlf ts (s.apply { hs := [] }) hk1 (frn.sub rfl rfl) (frn.frz rfl) true (fun h => h) j t' (v.cells.getD j undef) hj (by simp [hvl, hj'])
          have hrow : rowAt (List.replicate n.toNat (ls.map Leaf.pv)) i = ls.map Leaf.pv := by simp [rowAt, hi2]
          simpa [pvAt, hrow] using this)
      obtain ⟨q1, q2, q3, q4⟩ := key
      refine ⟨.slice (some ⟨w.heap.size, 0, none⟩) n.toNat n.toNat, β, _, _, ?_, q1, q2, q3, ?_, fun k _ hn => by simpa [AC.names] using hn, rfl⟩
      · refine exec_m (x := Instr.makeSlice T (a.eval len) (a.eval cap)) (by simp [execOp, hop]) ?_
        rw [hk1', hk2']
        exact run_make (P := P) (w := w) T e ti v hu hi hiz k1 k2 n n hb.1 (Int.le_refl _) (by rw [Int.mul_comm]; omega) (by omega)
      · exact own_header q4 (upd_same _ _ _) (by simp)
    · exact (RM.fail_ok h).elim


/-! ### append -/

/-- The content of a slice, as the machine reads it. -/
theorem rowsOf_ok (m : Mem P n0 β σ s w) {c : AC0 E N} {v : Value} {e : TypeId} {l : Rows} {nw : Bool} {k k' : Nat} (hc : RelC P n0 β σ s w c v) (h : RM.run s (rowsOf (O := std E N) c) k = .ok ((e, l, nw), k')) :
    ∃ (av : Option Addr) (cap : Nat) (ts : List TypeId) (u : Nat → Nat → Value), v = .slice av l.length cap ∧ l.length ≤ cap ∧ tysOf P e = some ts ∧ (∀ r ∈ l, r.length = ts.length) ∧
      (l = [] ∨ ∃ b off, av = some ⟨b, off, none⟩ ∧ ∀ i j, i < l.length → j < ts.length → w.cell? ⟨b, off + (i * ts.length + j), none⟩ = some (u i j)) ∧
      (∀ (nb : Bool), (nb = true → nw = true ∨ ∀ t' ∈ ts, ∀ e, lkOf P t' ≠ .sl e) → ∀ i j t', i < l.length → ts[j]? = some t' → Rep P w (StB n0 β σ s nb) t' (u i j) (pvAt l i j)) := by
  have weak : ∀ (ts : List TypeId) (u : Nat → Nat → Value), (∀ i j t', i < l.length → ts[j]? = some t' → Rep P w (StB n0 β σ s nw) t' (u i j) (pvAt l i j)) →
      ∀ (nb : Bool), (nb = true → nw = true ∨ ∀ t' ∈ ts, ∀ e, lkOf P t' ≠ .sl e) → ∀ i j t', i < l.length → ts[j]? = some t' → Rep P w (StB n0 β σ s nb) t' (u i j) (pvAt l i j) := by
    intro ts u hu nb hnb i j t' hi hj
    have := hu i j t' hi hj
    cases nb with
    | false => exact this.st (fun b hb => ⟨hb.1, hb.2.mono (fun h => by cases h)⟩)
    | true =>
      rcases hnb rfl with h1 | h1
      · exact this.st (fun b hb => ⟨hb.1, hb.2.mono (fun _ => h1)⟩)
      · generalize u i j = x, pvAt l i j = y at this
        cases this with
        | int h => exact .int h
        | bool h => exact .bool h
        | str h => exact .str h
        | sl v h _ _ _ _ _ _ => exact (h1 t' (List.mem_of_getElem? hj) _ h).elim
  cases c with
  | nil e0 =>
    have hr := RM.ret_ok h
    simp only [Prod.mk.injEq] at hr
    obtain ⟨rfl, rfl, rfl⟩ := hr
    obtain ⟨t, ts, ht, hts, av, rfl⟩ := hc
    exact ⟨av, 0, ts, fun _ _ => undef, rfl, Nat.le_refl _, hts, by simp, .inl rfl, fun nb _ i j t' hi => by simp at hi⟩
  | imm e0 nw0 l0 =>
    have hr := RM.ret_ok h
    simp only [Prod.mk.injEq] at hr
    obtain ⟨rfl, rfl, rfl⟩ := hr
    obtain ⟨t, ht, hrep⟩ := hc
    cases hrep with
    | @sl _ e2 ts av len cap _ vv ht' hts hl hr hcc hm hv =>
      rw [ht] at ht'; cases ht'
      subst hl
      refine ⟨av, cap, ts, vv, rfl, hcc, hts, hr, ?_, weak ts vv hv⟩
      rcases hm with hm | ⟨b, off, ha, _, _, hcell⟩
      · exact .inl (List.length_eq_zero_iff.1 hm)
      · exact .inr ⟨b, off, ha, hcell⟩
  | own e0 id =>
    obtain ⟨k1, h⟩ := RM.h_ok h
    cases hh : s.getH id with
    | none => rw [hh] at h; exact (RM.fail_ok h).elim
    | some en =>
      rw [hh] at h
      have hr := RM.ret_ok h
      simp only [Prod.mk.injEq] at hr
      obtain ⟨rfl, rfl, rfl⟩ := hr
      obtain ⟨_, hk⟩ := hc
      obtain ⟨_, ho⟩ := hk en hh
      obtain ⟨t, ts, ht, hts, hrl, hm⟩ := m.H id en hh
      rcases ho with ⟨blk, cap, hs, rfl⟩ | ⟨hs, hz, av, rfl⟩
      · rcases hm with ⟨hn, _⟩ | ⟨blk', cap', cells, el, hs', hheap, hel, hsz, hcap, hnw, u, hu, hrep⟩
        · rw [hn] at hs; cases hs
        · rw [hs'] at hs; cases hs
          exact ⟨_, cap, ts, u, rfl, hcap, hts, hrl, .inr ⟨blk, 0, rfl, fun i j hi hj => by rw [cell_of_heap hheap, Nat.zero_add]; exact hu i j hi hj⟩, weak ts u hrep⟩
      · have hl : en.l = [] := List.length_eq_zero_iff.1 hz
        exact ⟨av, 0, ts, fun _ _ => undef, by rw [hz], by rw [hz]; exact Nat.le_refl _, hts, hrl, .inl hl, fun nb _ i j t' hi => by rw [hz] at hi; omega⟩
  | _ => exact (RM.fail_ok h).elim


/-- A matrix laid flat. -/
def flat (n sz : Nat) (f : Nat → Nat → Value) : List Value := (List.range (n * sz)).map fun k => f (k / sz) (k % sz)

theorem flat_length (n sz : Nat) (f : Nat → Nat → Value) : (flat n sz f).length = n * sz := by simp [flat]

theorem mul_add_lt {i j n sz : Nat} (hi : i < n) (hj : j < sz) : i * sz + j < n * sz := by
  have : (i + 1) * sz ≤ n * sz := Nat.mul_le_mul_right _ hi
  rw [Nat.add_mul, Nat.one_mul] at this; omega

theorem flat_get {n sz : Nat} (f : Nat → Nat → Value) {i j : Nat} (hi : i < n) (hj : j < sz) : (flat n sz f)[i * sz + j]? = some (f i j) := by
  have h1 : (i * sz + j) / sz = i := by
    rw [Nat.add_comm, Nat.mul_comm, Nat.add_mul_div_left _ _ (by omega), Nat.div_eq_of_lt hj, Nat.zero_add]
  have h2 : (i * sz + j) % sz = j := by
    rw [Nat.add_comm, Nat.mul_comm, Nat.add_mul_mod_self_left]; exact Nat.mod_eq_of_lt hj
  simp [flat, mul_add_lt hi hj, h1, h2]

theorem flat_cells {n sz : Nat} (hsz : 0 < sz) {f : Nat → Nat → Value} {b off : Nat} (h : ∀ i j, i < n → j < sz → w.cell? ⟨b, off + (i * sz + j), none⟩ = some (f i j)) :
    ∀ j v, (flat n sz f)[j]? = some v → w.cell? ((⟨b, off, none⟩ : Addr).add j) = some v := by
  intro j v hj
  have hlt : j < n * sz := by have := (List.getElem?_eq_some_iff.1 hj).1; rwa [flat_length] at this
  have hd : j / sz < n := Nat.div_lt_of_lt_mul (by rwa [Nat.mul_comm] at hlt)
  have hm : j % sz < sz := Nat.mod_lt _ hsz
  have e : j = j / sz * sz + j % sz := by rw [Nat.mul_comm]; exact (Nat.div_add_mod j sz).symm
  have := h (j / sz) (j % sz) hd hm
  rw [← e] at this
  rw [addr_add, this]
  rw [e, flat_get f hd hm] at hj
  exact hj

theorem flat_one {n sz : Nat} (hsz : 0 < sz) {f : Nat → Nat → Value} (h : ∀ i j, i < n → j < sz → (f i j).oneCell' = true) : ∀ v ∈ flat n sz f, v.oneCell' = true := by
  intro v hv
  obtain ⟨j, hj, rfl⟩ := List.mem_map.1 hv
  have hlt := List.mem_range.1 hj
  exact h _ _ (Nat.div_lt_of_lt_mul (by rwa [Nat.mul_comm] at hlt)) (Nat.mod_lt _ hsz)

theorem Rep.one {St : Nat → Prop} {t : TypeId} {v : Value} {p : PV} (h : Rep P w St t v p) : v.oneCell' = true := by cases h <;> rfl

/-- append of nothing. -/
theorem run_append_none {T ty e : TypeId} {ti : TypeInfo} (hu : P.underlying T = some (.slice e)) (hi : P.info? e = some ti) {base av : Option Addr} {n cap cap' : Nat} (hc : n ≤ cap) :
    (Builtin.append_ #[T, T] ty #[.slice base n cap, .slice av 0 cap']).run P w = .ok (.slice base n cap) w := by
  cases av <;> cases base <;> simp [Builtin.append_, run_underlying hu, sizeOf, typeInfo, hi, Builtin.lenOf, hc, Builtin.firstCells, loadCells, loadCellsFrom, storeCells]

/-- append of something that needs a new array. -/
theorem run_append_new {T ty e : TypeId} {ti : TypeInfo} {z : Value} (hu : P.underlying T = some (.slice e)) (hi : P.info? e = some ti) (hz : ti.zero = some z) {base : Option Addr} {n cap m c b off : Nat} {olds news : List Value}
    (hlo : olds.length = n * ti.size) (holds : ∀ b, base = some b → ∀ j v, olds[j]? = some v → w.cell? (b.add j) = some v) (hnb : base = none → n = 0 ∧ cap = 0)
    (hl : news.length = m * ti.size) (hnews : ∀ j v, news[j]? = some v → w.cell? ((⟨b, off, none⟩ : Addr).add j) = some v)
    (hg : cap < n + m) (h63 : ((n + m : Nat) : Int) ≤ 9223372036854775807) (h47 : (n + m) * ti.bytes ≤ 140737488355328) :
    (Builtin.append_ #[T, T] ty #[.slice base n cap, .slice (some ⟨b, off, none⟩) m c]).run P w =
      .ok (.slice (some ⟨w.heap.size, 0, none⟩) (n + m) (grownCap w (n + m) cap e)) (w.drew.alloc (.cells (olds.toArray ++ news.toArray ++ Builtin.zeroCells z.cells (grownCap w (n + m) cap e - (n + m))) e)) := by
  cases base with
  | some bb => exact run_append_grow (P := P) w T ty e ti z hu hi hz bb n cap olds hlo (holds bb rfl) ⟨b, off, none⟩ m c news hl hnews hg h63 (growslice_fits hg h47)
  | none =>
    obtain ⟨rfl, rfl⟩ := hnb rfl
    have h0 : olds = [] := List.eq_nil_of_length_eq_zero (by simpa using hlo)
    subst h0
    have := run_append_nil (P := P) w T ty e ti z hu hi hz ⟨b, off, none⟩ m c news hl hnews (by omega) (by simpa using h63) (by simp only [Nat.zero_add] at h47; omega)
    simpa using this

theorem countSl_zero {P : Program} : ∀ {ts : List TypeId}, countSl P ts = 0 → ∀ t' ∈ ts, ∀ e, lkOf P t' ≠ .sl e
  | [], _, t', ht', _ => by simp at ht'
  | t :: ts, h0, t', ht', e2 => by
    simp only [countSl] at h0
    rcases List.mem_cons.1 ht' with rfl | ht'
    · intro he2; rw [he2] at h0; simp at h0
    · exact countSl_zero (by omega) t' ht' e2


end
end Go.Px
