/-
Px: the operations that make no memory do what the executor says.
-/
import Derived.Test.YtopmcbahdgfleaaGreatPxBase
namespace Go.Px
set_option linter.unusedVariables false
set_option linter.unusedSimpArgs false

section
variable {E : Env} {N : Nat} {P : Program} {n0 : Nz} {nt : Nat} {β : Nat → Option Nat} {σ : Nat → Option (Nat × Nat)} {s : St0 E N} {a : Act} {w : World}

/-! ### Lists of cells -/

theorem RelCs.take : ∀ {cs : List (AC0 E N)} {vs : List Value} (n : Nat), RelCs P n0 β σ s w cs vs → RelCs P n0 β σ s w (cs.take n) (vs.take n)
  | cs, vs, 0, h => by simp [RelCs]
  | [], [], n + 1, h => by simp [RelCs]
  | c :: cs, v :: vs, n + 1, h => ⟨h.1, RelCs.take n h.2⟩
  | [], _ :: _, _ + 1, h => h.elim
  | _ :: _, [], _ + 1, h => h.elim

theorem RelCs.drop : ∀ {cs : List (AC0 E N)} {vs : List Value} (n : Nat), RelCs P n0 β σ s w cs vs → RelCs P n0 β σ s w (cs.drop n) (vs.drop n)
  | cs, vs, 0, h => h
  | [], [], n + 1, h => by simp [RelCs]
  | c :: cs, v :: vs, n + 1, h => RelCs.drop n h.2
  | [], _ :: _, _ + 1, h => h.elim
  | _ :: _, [], _ + 1, h => h.elim

theorem RelCs.append : ∀ {cs cs' : List (AC0 E N)} {vs vs' : List Value}, RelCs P n0 β σ s w cs vs → RelCs P n0 β σ s w cs' vs' → RelCs P n0 β σ s w (cs ++ cs') (vs ++ vs')
  | [], _, [], _, _, h => h
  | c :: cs, _, v :: vs, _, h, h' => ⟨h.1, RelCs.append h.2 h'⟩
  | [], _, _ :: _, _, h, _ => h.elim
  | _ :: _, _, [], _, h, _ => h.elim

theorem sliceOf_eq {α : Type} {l r : List α} {off n : Nat} (h : sliceOf l off n = some r) : r = (l.drop off).take n ∧ r.length = n := by
  unfold sliceOf at h
  simp only at h
  split at h
  · rename_i hb; cases h; exact ⟨rfl, natBeq_iff.1 hb⟩
  · cases h

theorem namesCs_sub : ∀ {cs : List (AC0 E N)} {n : Nat}, n ∈ namesCs cs ↔ ∃ c ∈ cs, n ∈ c.names
  | [], n => by simp [namesCs]
  | c :: cs, n => by simp [namesCs, namesCs_sub]

theorem namesCs_take {cs : List (AC0 E N)} {n k : Nat} (h : n ∈ namesCs (cs.take k)) : n ∈ namesCs cs := by
  rw [namesCs_sub] at *; obtain ⟨c, hc, hn⟩ := h; exact ⟨c, List.mem_of_mem_take hc, hn⟩
theorem namesCs_drop {cs : List (AC0 E N)} {n k : Nat} (h : n ∈ namesCs (cs.drop k)) : n ∈ namesCs cs := by
  rw [namesCs_sub] at *; obtain ⟨c, hc, hn⟩ := h; exact ⟨c, List.mem_of_mem_drop hc, hn⟩

theorem namesCs_sliceOf {cs r : List (AC0 E N)} {off k n : Nat} (h : sliceOf cs off k = some r) (hn : n ∈ namesCs r) : n ∈ namesCs cs := by
  rw [(sliceOf_eq h).1] at hn; exact namesCs_drop (namesCs_take hn)

/-! ### Types -/

theorem tysOf_size {t : TypeId} {ts : List TypeId} (h : tysOf P t = some ts) : P.cellsOf t = ts.length ∧ 0 < ts.length := by
  unfold tysOf at h
  split at h
  · split at h
    · rename_i hb; cases h
      simp only [Bool.and_eq_true] at hb
      exact ⟨(natBeq_iff.1 hb.1).symm, natBlt_iff.1 hb.2⟩
    · cases h
  · cases h

theorem info_of_cells {t : TypeId} (h : 0 < P.cellsOf t) : ∃ i, P.info? t = some i := by
  unfold Program.cellsOf at h
  cases hi : P.info? t with
  | none => simp [hi] at h
  | some i => exact ⟨i, rfl⟩

theorem info_of_underlying {t : TypeId} {d : TypeDesc} (h : P.underlying t = some d) : ∃ i, P.info? t = some i := by
  unfold Program.underlying at h
  cases hi : P.info? t with
  | none => simp [hi] at h
  | some i => exact ⟨i, rfl⟩

theorem run_sizeOf' {t : TypeId} {i : TypeInfo} (h : P.info? t = some i) : (sizeOf t).run P w = .ok (P.cellsOf t) w := by
  simp [sizeOf, typeInfo, h, Program.cellsOf]

theorem run_isAgg' {t : TypeId} {d : TypeDesc} (h : P.underlying t = some d) : (isAgg t).run P w = .ok (isAggT P t) w := by
  unfold isAgg isAggT
  simp only [Sem.run_bind, run_underlying h, Result.andThen_ok, h]
  cases d <;> rfl

theorem lkOf_sl {t e : TypeId} : lkOf P t = .sl e ↔ P.underlying t = some (.slice e) := by
  unfold lkOf
  constructor
  · intro h; split at h <;> simp_all
  · intro h; rw [h]

theorem elemT_sl {t e : TypeId} (h : elemT P t = some e) : P.underlying t = some (.slice e) := by
  unfold elemT at h
  split at h
  · rename_i hu; cases h; exact hu
  · cases h

theorem lkOf_int {t : TypeId} {k : IntKind} (h : lkOf P t = .int k) : P.underlying t = some (.int k) := by
  unfold lkOf at h; split at h <;> simp_all
theorem lkOf_bool {t : TypeId} (h : lkOf P t = .bool) : P.underlying t = some .bool := by
  unfold lkOf at h; split at h <;> simp_all
theorem lkOf_str {t : TypeId} (h : lkOf P t = .str) : P.underlying t = some .string := by
  unfold lkOf at h; split at h <;> simp_all

/-! ### Rows -/

/-- A cell of a row, as an abstract cell. -/
theorem rep_int {St : Nat → Prop} {t : TypeId} {v : Value} {p : PV} {k : IntKind} (h : Rep P w St t v p) (hk : lkOf P t = .int k) : v = .int k (pvI p) := by
  cases h <;> simp_all
theorem rep_bool {St : Nat → Prop} {t : TypeId} {v : Value} {p : PV} (h : Rep P w St t v p) (hk : lkOf P t = .bool) : v = .bool (pvB p) := by
  cases h <;> simp_all
theorem rep_str {St : Nat → Prop} {t : TypeId} {v : Value} {p : PV} (h : Rep P w St t v p) (hk : lkOf P t = .str) : v = .string (pvS p) := by
  cases h <;> simp_all
theorem rep_sl {St : Nat → Prop} {t e : TypeId} {v : Value} {p : PV} (h : Rep P w St t v p) (hk : lkOf P t = .sl e) : Rep P w St t v (.rows (pvL p)) := by
  cases h with
  | int h => simp_all
  | bool h => simp_all
  | str h => simp_all
  | sl v h hts hl hr hc hm hv => exact .sl v h hts hl hr hc hm hv

theorem rowCells_rel {nw : Bool} {l : Rows} {i : Int} (vs : Nat → Value) : ∀ {j : Nat} {ts : List TypeId} {cs : List (AC0 E N)}, rowCells P nw l i j ts = some cs →
    (∀ q t', ts[q]? = some t' → Rep P w (StB n0 β σ s nw) t' (vs (j + q)) (pvAt l i.toNat (j + q))) →
    RelCs P n0 β σ s w cs ((List.range ts.length).map fun q => vs (j + q)) ∧ namesCs cs = []
  | j, [], cs, h, _ => by simp only [rowCells] at h; cases h; exact ⟨trivial, rfl⟩
  | j, t :: ts, cs, h, hv => by
    simp only [rowCells] at h
    split at h
    · cases h
    · rename_i r hr
      obtain ⟨ih, ihn⟩ := rowCells_rel vs hr (fun q t' hq => by
        have := hv (q + 1) t' (by simpa using hq)
        rwa [show j + (q + 1) = j + 1 + q by omega] at this)
      have h0 := hv 0 t (by simp)
      simp only [Nat.add_zero] at h0
      have hl : ((List.range (t :: ts).length).map fun q => vs (j + q)) = vs j :: (List.range ts.length).map fun q => vs (j + 1 + q) := by
        simp only [List.length_cons, List.range_succ_eq_map, List.map_cons, Nat.add_zero, List.map_map]
        congr 1
        apply List.map_congr_left; intro q _; simp [Nat.add_assoc, Nat.add_comm 1 q]
      rw [hl]
      split at h
      · rename_i k hk; cases h; exact ⟨⟨rep_int h0 hk, ih⟩, by simp [namesCs, AC.names, ihn]⟩
      · rename_i hk; cases h; exact ⟨⟨rep_bool h0 hk, ih⟩, by simp [namesCs, AC.names, ihn]⟩
      · rename_i hk; cases h; exact ⟨⟨rep_str h0 hk, ih⟩, by simp [namesCs, AC.names, ihn]⟩
      · rename_i e hk; cases h; exact ⟨⟨⟨t, hk, rep_sl h0 hk⟩, ih⟩, by simp [namesCs, AC.names, ihn]⟩
      · cases h

theorem rowFits_eq {e t : TypeId} {off : Nat} {ts : List TypeId} (h : rowFits P e off t = some ts) : ∃ le, tysOf P e = some le ∧ tysOf P t = some ts ∧ (le.drop off).take ts.length = ts := by
  unfold rowFits at h
  split at h
  · rename_i l r hl hr
    split at h
    · rename_i hb; cases h; exact ⟨l, hl, hr, natListEq_iff.1 hb⟩
    · cases h
  · cases h

theorem getElem?_of_sub {α : Type} {le ts : List α} {off : Nat} (h : (le.drop off).take ts.length = ts) {q : Nat} {t : α} (hq : ts[q]? = some t) : le[off + q]? = some t := by
  have hlt : q < ts.length := (List.getElem?_eq_some_iff.1 hq).1
  rw [← h, List.getElem?_take, if_pos hlt, List.getElem?_drop] at hq
  exact hq

/-! ### Loads -/

theorem cell_of_heap {blk off : Nat} {cells : Array Value} {el : TypeId} {fr : Nat × Nat} (h : w.heap[blk]? = some (.cells cells el fr)) : w.cell? ⟨blk, off, none⟩ = cells[off]? := by
  simp [World.cell?, h]

theorem addr_add (blk off j : Nat) : (⟨blk, off, none⟩ : Addr).add j = ⟨blk, off + j, none⟩ := by unfold Addr.add; split <;> simp_all

theorem aggOk_spec {T : TypeId} {n : Nat} (h : aggOk P T n = true) : (∃ d, P.underlying T = some d) ∧ (isAggT P T = true ∨ n = 1) := by
  unfold aggOk at h
  simp only [Bool.and_eq_true, Bool.or_eq_true] at h
  exact ⟨Option.isSome_iff_exists.1 h.1, h.2.imp id natBeq_iff.1⟩

/-- A load of so many cells. -/
theorem run_loadVar_cells {T : TypeId} {blk off : Nat} {cs : List (AC0 E N)} {vs : List Value} (hr : RelCs P n0 β σ s w cs vs) (hag : aggOk P T cs.length = true)
    (hn : vs.length = P.cellsOf T) (h : ∀ j v, vs[j]? = some v → w.cell? ⟨blk, off + j, none⟩ = some v) :
    ∃ x, (loadVar T ⟨blk, off, none⟩).run P w = .ok x w ∧ RelVal P n0 β σ s w { agg := isAggT P T, cs } x := by
  obtain ⟨⟨d, hu⟩, hag⟩ := aggOk_spec hag
  obtain ⟨i, hi⟩ := info_of_underlying hu
  cases hb : isAggT P T with
  | true =>
    have hl := run_loadCells_list (P := P) w ⟨blk, off, none⟩ vs (fun j v hj => by rw [addr_add]; exact h j v hj)
    rw [hn] at hl
    exact ⟨.agg vs.toArray, by simp [loadVar, run_isAgg' hu, hb, run_sizeOf' hi, hl], by simpa [Value.cells] using hr, _, rfl⟩
  | false =>
    have h1 : vs.length = 1 := by
      rcases hag with h | h
      · rw [hb] at h; cases h
      · rw [← RelCs.length hr]; exact h
    match vs, h1 with
    | [v], _ =>
      have hc := h 0 v rfl
      simp only [Nat.add_zero] at hc
      have ho := RelCs.one hr v (by simp)
      exact ⟨v, by simp [loadVar, run_isAgg' hu, hb, run_load, hc], by rw [cells_one ho]; exact hr, ho⟩

theorem StB_and {nw nw' : Bool} {b : Nat} (h : StB n0 β σ s nw b) : StB n0 β σ s (nw && nw') b :=
  ⟨h.1, h.2.mono (fun e => by simp_all)⟩
theorem StB_and' {nw nw' : Bool} {b : Nat} (h : StB n0 β σ s nw' b) : StB n0 β σ s (nw && nw') b :=
  ⟨h.1, h.2.mono (fun e => by simp_all)⟩

theorem Rep.st {St St' : Nat → Prop} {t : TypeId} {v : Value} {p : PV} (h : Rep P w St t v p) (hs : ∀ b, St b → St' b) : Rep P w St' t v p :=
  h.mono (fun b _ hlt => ⟨rfl, hlt⟩) (fun b hb _ => hs b hb)

theorem mergeC_rel {b : Bool} {x y c : AC0 E N} {v : Value} (h : mergeC (O := std E N) b x y = some c) (ht : b = true → RelC P n0 β σ s w x v) (hf : b = false → RelC P n0 β σ s w y v) :
    RelC P n0 β σ s w c v ∧ c.names = [] := by
  unfold mergeC at h
  split at h
  · split at h
    · rename_i k i k' j hk
      cases h
      have := ikEq_iff.1 hk
      subst this
      cases b
      · exact ⟨hf rfl, rfl⟩
      · exact ⟨ht rfl, rfl⟩
    · cases h
  · cases h; cases b
    · exact ⟨hf rfl, rfl⟩
    · exact ⟨ht rfl, rfl⟩
  · cases h; cases b
    · exact ⟨hf rfl, rfl⟩
    · exact ⟨ht rfl, rfl⟩
  · split at h
    · rename_i e nw l e' nw' l' he
      cases h
      have := natBeq_iff.1 he
      subst this
      refine ⟨?_, rfl⟩
      cases b
      · obtain ⟨t, h1, h2⟩ := hf rfl
        exact ⟨t, h1, h2.st fun _ => StB_and'⟩
      · obtain ⟨t, h1, h2⟩ := ht rfl
        exact ⟨t, h1, h2.st fun _ => StB_and⟩
    · cases h
  · cases h

theorem mergeCs_rel {b : Bool} : ∀ {xs ys cs : List (AC0 E N)} {vs : List Value}, mergeCs (O := std E N) b xs ys = some cs → (b = true → RelCs P n0 β σ s w xs vs) → (b = false → RelCs P n0 β σ s w ys vs) →
    RelCs P n0 β σ s w cs vs ∧ namesCs cs = [] ∧ cs.length = xs.length
  | [], [], cs, vs, h, ht, hf => by
    simp only [mergeCs] at h; cases h
    cases b
    · exact ⟨hf rfl, rfl, rfl⟩
    · exact ⟨ht rfl, rfl, rfl⟩
  | x :: xs, y :: ys, cs, vs, h, ht, hf => by
    simp only [mergeCs] at h
    split at h
    · rename_i c r hc hr
      cases h
      match vs with
      | [] => cases b
              · exact (hf rfl).elim
              · exact (ht rfl).elim
      | v :: vs =>
        obtain ⟨r1, n1⟩ := mergeC_rel (P := P) (n0 := n0) (β := β) (σ := σ) (s := s) (w := w) (v := v) hc (fun e => (ht e).1) (fun e => (hf e).1)
        obtain ⟨r2, n2, l2⟩ := mergeCs_rel hr (fun e => (ht e).2) (fun e => (hf e).2)
        exact ⟨⟨r1, r2⟩, by simp [namesCs, n1, n2], by simp [l2]⟩
    · cases h
  | [], _ :: _, cs, vs, h, _, _ => by simp [mergeCs] at h
  | _ :: _, [], cs, vs, h, _, _ => by simp [mergeCs] at h

theorem mergeCs_len {b : Bool} : ∀ {xs ys cs : List (AC0 E N)}, mergeCs (O := std E N) b xs ys = some cs → cs.length = ys.length
  | [], [], cs, h => by simp only [mergeCs] at h; cases h; rfl
  | x :: xs, y :: ys, cs, h => by
    simp only [mergeCs] at h
    split at h
    · rename_i c r hc hr; cases h; simp [mergeCs_len hr]
    · cases h
  | [], _ :: _, cs, h => by simp [mergeCs] at h
  | _ :: _, [], cs, h => by simp [mergeCs] at h

theorem pickE_rel {f : Nat → Option (List (AC0 E N))} {i : Int} (vs : Nat → List Value) : ∀ {n : Nat} {r : List (AC0 E N)}, pickE (O := std E N) f i n = some r → 0 ≤ i → i ≤ (n : Int) →
    (∀ k c, k ≤ n → f k = some c → RelCs P n0 β σ s w c (vs k)) → RelCs P n0 β σ s w r (vs i.toNat)
  | 0, r, h, h0, hn, hv => by
    have : i.toNat = 0 := by omega
    rw [this]
    exact hv 0 r (Nat.le_refl _) h
  | k + 1, r, h, h0, hn, hv => by
    simp only [pickE] at h
    split at h
    · rename_i r1 c hr1 hc
      have hcs := hv (k + 1) c (Nat.le_refl _) hc
      have key : (i == ((k + 1 : Nat) : Int)) = false → RelCs P n0 β σ s w r1 (vs i.toNat) := fun hb => by
        have hne : i ≠ ((k + 1 : Nat) : Int) := by simpa using hb
        exact pickE_rel vs hr1 h0 (by omega) (fun k' c' hk' => hv k' c' (by omega))
      exact (mergeCs_rel (P := P) (n0 := n0) (β := β) (σ := σ) (s := s) (w := w) (vs := vs i.toNat) h
        (fun hb => by
          have : i = ((k + 1 : Nat) : Int) := by simpa using hb
          rw [show i.toNat = k + 1 by omega]; exact hcs) key).1
    · cases h

theorem mergeCs_names {b : Bool} : ∀ {xs ys cs : List (AC0 E N)}, mergeCs (O := std E N) b xs ys = some cs → namesCs cs = []
  | [], [], cs, h => by simp only [mergeCs] at h; cases h; rfl
  | x :: xs, y :: ys, cs, h => by
    simp only [mergeCs] at h
    split at h
    · rename_i c r hc hr
      cases h
      have h1 := mergeCs_names hr
      have h2 : c.names = [] := by
        unfold mergeC at hc
        split at hc
        · split at hc
          · cases hc; rfl
          · cases hc
        · cases hc; rfl
        · cases hc; rfl
        · split at hc
          · cases hc; rfl
          · cases hc
        · cases hc
      simp [namesCs, h1, h2]
    · cases h
  | [], _ :: _, cs, h => by simp [mergeCs] at h
  | _ :: _, [], cs, h => by simp [mergeCs] at h

theorem pickE_names {f : Nat → Option (List (AC0 E N))} {i : Int} {n : Nat} {r : List (AC0 E N)} (h : pickE (O := std E N) f i n = some r) :
    ∀ m ∈ namesCs r, ∃ c, f 0 = some c ∧ m ∈ namesCs c := by
  cases n with
  | zero => exact fun m hm => ⟨r, h, hm⟩
  | succ n =>
    simp only [pickE] at h
    split at h
    · rw [mergeCs_names h]; simp
    · cases h

theorem pickE_len {f : Nat → Option (List (AC0 E N))} {i : Int} {k : Nat} (hf : ∀ n c, f n = some c → c.length = k) : ∀ {n : Nat} {r : List (AC0 E N)}, pickE (O := std E N) f i n = some r → r.length = k
  | 0, r, h => hf 0 r h
  | n + 1, r, h => by
    simp only [pickE] at h
    split at h
    · rename_i r1 c hr1 hc
      rw [mergeCs_len h]
      exact pickE_len hf hr1
    · cases h

/-- What a load reads. -/
def ReadsAt (P : Program) (n0 : Nz) (β : Nat → Option Nat) (σ : Nat → Option (Nat × Nat)) (s : St0 E N) (w : World) (T : TypeId) (v : Value) (cs : List (AC0 E N)) : Prop :=
  ∃ blk off vs, v = .pointer (some ⟨blk, off, none⟩) ∧ vs.length = P.cellsOf T ∧ RelCs P n0 β σ s w cs vs ∧
    ∀ j x, vs[j]? = some x → w.cell? ⟨blk, off + j, none⟩ = some x

theorem reads_box (m : Mem P n0 β σ s w) {b off : Nat} {e : BEnt (std E N)} {v : Value} (he : s.getB b = some e) (hp : RelPtr β s b off v) :
    ∃ blk cells el, v = .pointer (some ⟨blk, off, none⟩) ∧ β b = some blk ∧ w.heap[blk]? = some (.cells cells el (0, 0)) ∧ RelCs P n0 β σ s w e.cs cells.toList := by
  obtain ⟨blk, rfl, hb⟩ := hp
  obtain ⟨blk', cells, el, hb', hh, hr⟩ := m.B b e he
  have := hb e he
  rw [hb'] at this
  cases this
  exact ⟨blk, cells, el, rfl, hb', hh, hr⟩

theorem drop_take_cell {blk : Nat} {cells : Array Value} {el : TypeId} {fr : Nat × Nat} (h : w.heap[blk]? = some (.cells cells el fr)) (off n j : Nat) (x : Value)
    (hj : ((cells.toList.drop off).take n)[j]? = some x) : w.cell? ⟨blk, off + j, none⟩ = some x := by
  rw [cell_of_heap h]
  rw [List.getElem?_take] at hj
  split at hj
  · rw [List.getElem?_drop] at hj; simpa using hj
  · cases hj

theorem loadCs_ok (m : Mem P n0 β σ s w) {T : TypeId} {p : AC0 E N} {v : Value} {cs : List (AC0 E N)} {k k' : Nat} (hp : RelC P n0 β σ s w p v)
    (h : RM.run s (loadCs P T p) k = .ok (cs, k')) : ReadsAt P n0 β σ s w T v cs ∧ ∀ n, Fresh a s n → n ∉ namesCs cs := by
  cases p with
  | ptr b off =>
    obtain ⟨k1, h⟩ := RM.b_ok h
    cases he : s.getB b with
    | none => rw [he] at h; exact (RM.fail_ok h).elim
    | some e =>
      rw [he] at h
      have hs := RM.ofOpt_ok h
      obtain ⟨blk, cells, el, rfl, hb, hh, hr⟩ := reads_box m he hp
      obtain ⟨e1, e2⟩ := sliceOf_eq hs
      have hrr := RelCs.take (P.cellsOf T) (RelCs.drop off hr)
      rw [← e1] at hrr
      exact ⟨⟨blk, off, _, rfl, (RelCs.length hrr).symm.trans e2, hrr, fun j x hj => drop_take_cell hh off _ j x hj⟩,
        fun n hn hm => (hn.b b e he).2 (namesCs_sliceOf hs hm)⟩
  | aptr b off n sz i inner =>
    obtain ⟨k1, h⟩ := RM.b_ok h
    obtain ⟨h0, hlt, hp⟩ := hp
    cases he : s.getB b with
    | none => rw [he] at h; exact (RM.fail_ok h).elim
    | some e =>
      rw [he] at h
      obtain ⟨blk, cells, el, rfl, hb, hh, hr⟩ := reads_box m he hp
      cases n with
      | zero => exact (RM.fail_ok h).elim
      | succ n =>
        have hs := RM.ofOpt_ok h
        obtain ⟨i, rfl⟩ : ∃ j : Int, j = i := ⟨i, rfl⟩
        have h0' : (0 : Int) ≤ i := h0
        have hlt' : i < ((n + 1 : Nat) : Int) := hlt
        have key := pickE_rel (P := P) (n0 := n0) (β := β) (σ := σ) (s := s) (w := w) (fun k => (cells.toList.drop (off + k * sz + inner)).take (P.cellsOf T)) hs h0' (by omega)
          (fun k c hk hc => by
            have := RelCs.take (P.cellsOf T) (RelCs.drop (off + k * sz + inner) hr)
            rwa [← (sliceOf_eq hc).1] at this)
        have hlen : cs.length = P.cellsOf T := pickE_len (fun k c hc => (sliceOf_eq hc).2) hs
        refine ⟨⟨blk, _, _, rfl, (RelCs.length key).symm.trans hlen, key, fun j x hj => drop_take_cell hh _ _ j x hj⟩, fun m hm hx => ?_⟩
        obtain ⟨c, hc, hmc⟩ := pickE_names hs m hx
        exact (hm.b b e he).2 (namesCs_sliceOf hc hmc)
  | eptr id i off =>
    obtain ⟨k1, h⟩ := RM.h_ok h
    obtain ⟨h0, blk, o, rfl, hk⟩ := hp
    cases he : s.getH id with
    | none => rw [he] at h; exact (RM.fail_ok h).elim
    | some e =>
      rw [he] at h
      simp only at h
      split at h
      · rename_i ts hf
        have hs := RM.ofOpt_ok h
        obtain ⟨hi, ts', cap, hts', hsg, rfl⟩ := hk e he
        obtain ⟨t, le, ht, hle, hrl, hm⟩ := m.H id e he
        rw [hle] at hts'; cases hts'
        obtain ⟨le', hle', hT, hsub⟩ := rowFits_eq hf
        rw [hle] at hle'; cases hle'
        rcases hm with ⟨hn, _⟩ | ⟨blk', cap', cells, el, hsg', hh, hel, hsz, hcap, hnw, v, hv, hrep⟩
        · rw [hn] at hsg; cases hsg
        · rw [hsg'] at hsg; cases hsg
          obtain ⟨i, rfl⟩ : ∃ j : Int, j = i := ⟨i, rfl⟩
          have hin : i.toNat < List.length e.l := by
            have h0' : (0 : Int) ≤ i := h0
            have hi' : i < ((List.length e.l : Nat) : Int) := hi
            omega
          obtain ⟨hr, hnm⟩ := rowCells_rel (P := P) (n0 := n0) (β := β) (σ := σ) (s := s) (w := w) (fun q => v i.toNat q) hs (fun q t' hq => hrep i.toNat (off + q) t' hin (getElem?_of_sub hsub hq))
          have hlen : ts.length = P.cellsOf T := (tysOf_size hT).1.symm
          refine ⟨⟨blk, _, _, rfl, by simpa using hlen, hr, fun j x hj => ?_⟩, fun m _ => by rw [hnm]; simp⟩
          simp only [List.getElem?_map, Option.map_eq_some_iff] at hj
          obtain ⟨q, hq, rfl⟩ := hj
          obtain ⟨hqlt, rfl⟩ := List.getElem?_eq_some_iff.1 hq
          simp only [List.length_range] at hqlt
          simp only [List.getElem_range]
          rw [cell_of_heap hh, Nat.add_assoc]
          have hb := (List.getElem?_eq_some_iff.1 (getElem?_of_sub hsub (List.getElem?_eq_getElem hqlt))).1
          exact hv i.toNat (off + j) hin hb
      · exact (RM.fail_ok h).elim
  | iptr e nw l i off =>
    simp only [loadCs] at h
    split at h
    · rename_i ts hf
      have hs := RM.ofOpt_ok h
      obtain ⟨h0, hi, t, le, blk, boff, len, cap, ht, hle, hrep, rfl⟩ := hp
      obtain ⟨le', hle', hT, hsub⟩ := rowFits_eq hf
      rw [hle] at hle'; cases hle'
      obtain ⟨i, rfl⟩ : ∃ j : Int, j = i := ⟨i, rfl⟩
      have h0' : (0 : Int) ≤ i := h0
      have hi' : i < ((List.length l : Nat) : Int) := hi
      have hin : i.toNat < List.length l := by omega
      cases hrep with
      | sl v ht' hts hl hr hc hm hv =>
        rw [ht] at ht'; cases ht'
        rw [hle] at hts; cases hts
        rcases hm with hm | ⟨b, o, ha, hb, hlt, hcell⟩
        · rw [← hl] at hm; omega
        · cases ha
          have hin' : i.toNat < len := by rw [← hl]; exact hin
          obtain ⟨hr, hnm⟩ := rowCells_rel (P := P) (n0 := n0) (β := β) (σ := σ) (s := s) (w := w) (fun q => v i.toNat q) hs (fun q t' hq => hv i.toNat (off + q) t' hin' (getElem?_of_sub hsub hq))
          have hlen : ts.length = P.cellsOf T := (tysOf_size hT).1.symm
          refine ⟨⟨blk, _, _, rfl, by simpa using hlen, hr, fun j x hj => ?_⟩, fun m _ => by rw [hnm]; simp⟩
          simp only [List.getElem?_map, Option.map_eq_some_iff] at hj
          obtain ⟨q, hq, rfl⟩ := hj
          obtain ⟨hqlt, rfl⟩ := List.getElem?_eq_some_iff.1 hq
          simp only [List.length_range] at hqlt
          simp only [List.getElem_range]
          have hb := (List.getElem?_eq_some_iff.1 (getElem?_of_sub hsub (List.getElem?_eq_getElem hqlt))).1
          have := hcell i.toNat (off + j) hin' hb
          rw [← this]; congr 2; omega
    · exact (RM.fail_ok h).elim
  | int k i => exact (RM.fail_ok h).elim
  | bool b => exact (RM.fail_ok h).elim
  | str x => exact (RM.fail_ok h).elim
  | nil e => exact (RM.fail_ok h).elim
  | imm e nw l => exact (RM.fail_ok h).elim
  | own e id => exact (RM.fail_ok h).elim
  | fn f caps => exact (RM.fail_ok h).elim
  | nilptr => exact (RM.fail_ok h).elim

end
end Go.Px
