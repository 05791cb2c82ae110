/-
Px: the operations that make no memory, one by one.
-/
import Derived.Test.YtopmcbahdgfleaaGreatPxPure
import Derived.ChangeKeysEq
namespace Go.Px
set_option linter.unusedVariables false
set_option linter.unusedSimpArgs false

section
variable {E : Env} {N : Nat} {P : Program} {n0 : Nz} {nt : Nat} {β : Nat → Option Nat} {σ : Nat → Option (Nat × Nat)} {s : St0 E N} {a : Act} {w : World}

theorem relVal_one {c : AC0 E N} {v : Value} (h : RelC P n0 β σ s w c v) : RelVal P n0 β σ s w { agg := false, cs := [c] } v :=
  ⟨by rw [cells_one (RelC.one h)]; exact ⟨h, trivial⟩, RelC.one h⟩

theorem relAV_one {c : AC0 E N} {v : Value} (h : RelC P n0 β σ s w c v) : RelAV P n0 β σ s w (one c) v := relVal_one h

theorem relVal_inv {c : AC0 E N} {v : Value} (h : RelVal P n0 β σ s w { agg := false, cs := [c] } v) : RelC P n0 β σ s w c v := by
  obtain ⟨h1, h2⟩ := h
  rw [cells_one h2] at h1
  exact h1.1

theorem relVal_agg {cs : List (AC0 E N)} {v : Value} (h : RelVal P n0 β σ s w { agg := true, cs } v) : ∃ vs, v = .agg vs ∧ RelCs P n0 β σ s w cs vs.toList := by
  obtain ⟨h1, vs, rfl⟩ := h
  exact ⟨vs, rfl, h1⟩

theorem addOff_rel {n : Nat} {p p' : AC0 E N} {v : Value} (h : addOff n p = some p') (hp : RelC P n0 β σ s w p v) :
    ∃ blk o, v = .pointer (some ⟨blk, o, none⟩) ∧ RelC P n0 β σ s w p' (.pointer (some ⟨blk, o + n, none⟩)) ∧ p'.names = p.names := by
  cases p with
  | ptr b off =>
    simp only [addOff, Option.some.injEq] at h; subst h
    obtain ⟨blk, rfl, hb⟩ := hp
    exact ⟨blk, off, rfl, ⟨blk, rfl, hb⟩, rfl⟩
  | aptr b off m sz i inner =>
    simp only [addOff, Option.some.injEq] at h; subst h
    obtain ⟨h0, h1, blk, rfl, hb⟩ := hp
    exact ⟨blk, _, rfl, ⟨h0, h1, blk, by rw [Nat.add_assoc _ inner n], hb⟩, rfl⟩
  | eptr id i off =>
    simp only [addOff, Option.some.injEq] at h; subst h
    obtain ⟨h0, blk, o, rfl, hk⟩ := hp
    refine ⟨blk, o, rfl, ⟨h0, blk, o + n, rfl, fun e he => ?_⟩, rfl⟩
    obtain ⟨hi, ts, cap, hts, hs, ho⟩ := hk e he
    exact ⟨hi, ts, cap, hts, hs, by rw [ho, Nat.add_assoc]⟩
  | iptr e nw l i off =>
    simp only [addOff, Option.some.injEq] at h; subst h
    obtain ⟨h0, h1, t, ts, blk, boff, len, cap, ht, hts, hr, rfl⟩ := hp
    exact ⟨blk, _, rfl, ⟨h0, h1, t, ts, blk, boff, len, cap, ht, hts, hr, by rw [Nat.add_assoc, Nat.add_assoc]⟩, rfl⟩
  | int k i => simp [addOff] at h
  | bool b => simp [addOff] at h
  | str x => simp [addOff] at h
  | nil e => simp [addOff] at h
  | imm e nw l => simp [addOff] at h
  | own e id => simp [addOff] at h
  | fn f caps => simp [addOff] at h
  | nilptr => simp [addOff] at h

theorem fieldOf_spec {T : TypeId} {f : Nat} {fd : Field} (h : fieldOf P T f = some fd) : ∃ fs, P.underlying T = some (.struct fs) ∧ fs[f]? = some fd := by
  unfold fieldOf at h
  split at h
  · rename_i fs hu; exact ⟨fs, hu, by simpa using h⟩
  · cases h

theorem run_fieldAt {T : TypeId} {f : Nat} {fd : Field} {blk o : Nat} (h : fieldOf P T f = some fd) (hs : P.cellsOf fd.type ≠ 0) :
    (Instr.fieldAt T (.pointer (some ⟨blk, o, none⟩)) f).run P w = .ok (.pointer (some ⟨blk, o + fd.offset, none⟩)) w := by
  obtain ⟨fs, hu, hf⟩ := fieldOf_spec h
  obtain ⟨i, hi⟩ := info_of_cells (P := P) (t := fd.type) (by omega)
  simp [Instr.fieldAt, run_underlying hu, hf, Instr.sureAddr, fieldPlace, run_sizeOf' hi, hs, addr_add]

theorem cons_nil_toList {α : Type} {c : α} {cs : List α} (h : cs = [c]) : cs.length = 1 := by subst h; rfl

theorem run_field {T : TypeId} {f : Nat} {fd : Field} {vs : Array Value} {cs r : List (AC0 E N)} (h : fieldOf P T f = some fd) (hr : RelCs P n0 β σ s w cs vs.toList)
    (hsl : sliceOf cs fd.offset (P.cellsOf fd.type) = some r) (hag : aggOk P fd.type r.length = true) :
    ∃ x, (Instr.field T (.agg vs) f).run P w = .ok x w ∧ RelVal P n0 β σ s w { agg := isAggT P fd.type, cs := r } x := by
  obtain ⟨fs, hu, hf⟩ := fieldOf_spec h
  obtain ⟨e1, e2⟩ := sliceOf_eq hsl
  obtain ⟨⟨d, hud⟩, hag⟩ := aggOk_spec hag
  obtain ⟨i, hi⟩ := info_of_underlying hud
  have hrr := RelCs.take (P.cellsOf fd.type) (RelCs.drop fd.offset hr)
  rw [← e1] at hrr
  cases hb : isAggT P fd.type with
  | true =>
    refine ⟨.agg (vs.extract fd.offset (fd.offset + P.cellsOf fd.type)), by simp [Instr.field, run_underlying hu, hf, part, run_isAgg' hud, hb, run_sizeOf' hi, asAgg], ?_, _, rfl⟩
    simp only [Value.cells, Array.toList_extract, List.extract_eq_take_drop, Nat.add_sub_cancel_left]
    exact hrr
  | false =>
    have h1 : r.length = 1 := by
      rcases hag with h | h
      · rw [hb] at h; cases h
      · exact h
    have hlen := RelCs.length hrr
    rw [h1] at hlen
    match hx : (vs.toList.drop fd.offset).take (P.cellsOf fd.type), hlen with
    | [x], _ =>
      rw [hx] at hrr
      have hc : vs[fd.offset]? = some x := by
        have : ((vs.toList.drop fd.offset).take (P.cellsOf fd.type))[0]? = some x := by rw [hx]; rfl
        rw [List.getElem?_take] at this
        split at this
        · rw [List.getElem?_drop] at this; simpa using this
        · cases this
      refine ⟨x, by simp [Instr.field, run_underlying hu, hf, part, run_isAgg' hud, hb, asAgg, hc], ?_⟩
      have ho := RelCs.one hrr x (by simp)
      exact ⟨by rw [cells_one ho]; exact hrr, ho⟩

/-- An element of an array in hand. -/
theorem run_part {T : TypeId} {off : Nat} {vs : Array Value} {r : List (AC0 E N)} (hr : RelCs P n0 β σ s w r ((vs.toList.drop off).take (P.cellsOf T)))
    (hl : r.length = P.cellsOf T) (hag : aggOk P T r.length = true) :
    ∃ x, (part T vs off).run P w = .ok x w ∧ RelVal P n0 β σ s w { agg := isAggT P T, cs := r } x := by
  obtain ⟨⟨d, hud⟩, hag⟩ := aggOk_spec hag
  obtain ⟨i, hi⟩ := info_of_underlying hud
  cases hb : isAggT P T with
  | true =>
    refine ⟨.agg (vs.extract off (off + P.cellsOf T)), by simp [part, run_isAgg' hud, hb, run_sizeOf' hi], ?_, _, rfl⟩
    simp only [Value.cells, Array.toList_extract, List.extract_eq_take_drop, Nat.add_sub_cancel_left]
    exact hr
  | false =>
    have h1 : r.length = 1 := by
      rcases hag with h | h
      · rw [hb] at h; cases h
      · exact h
    have hlen := RelCs.length hr
    rw [h1] at hlen
    match hx : (vs.toList.drop off).take (P.cellsOf T), hlen with
    | [x], _ =>
      rw [hx] at hr
      have hc : vs[off]? = some x := by
        have : ((vs.toList.drop off).take (P.cellsOf T))[0]? = some x := by rw [hx]; rfl
        rw [List.getElem?_take] at this
        split at this
        · rw [List.getElem?_drop] at this; simpa using this
        · cases this
      refine ⟨x, by simp [part, run_isAgg' hud, hb, hc], ?_⟩
      have ho := RelCs.one hr x (by simp)
      exact ⟨by rw [cells_one ho]; exact hr, ho⟩

/-! ### Integers, strings, comparisons -/

theorem isNonzero_spec {y : Operand} (h : isNonzero y = true) : ∃ k n, y = .const (.int k n) ∧ n ≠ 0 := by
  unfold isNonzero at h
  split at h
  · rename_i k n; exact ⟨k, n, rfl, by simpa using h⟩
  · cases h

theorem run_intBin (op : BinOp) (T : TypeId) (k : IntKind) (i j : Int) (hop : op ≠ .shl ∧ op ≠ .shr) :
    binOp op T (.int k i) (.int k j) = match op with
      | .add | .sub | .mul => Op.intArith op k i j
      | .quo | .rem => Op.intDiv op k i j
      | .and | .or | .xor | .andNot => Op.intBits op k i j
      | _ => Op.intCmp op i j := by
  obtain ⟨h1, h2⟩ := hop
  cases op <;> first | exact absurd rfl h1 | exact absurd rfl h2 | simp [binOp]

theorem eqGuard_plain (op : BinOp) (T : TypeId) (x y : Operand) (u v : Value) (h : u.oneCell' = true) (hi : u ≠ .nilIface) : (eqGuard op T x y u v).run P w = .ok () w := by
  unfold eqGuard
  cases op <;> first | rfl | skip
  all_goals
    simp only [Bool.not_true, Bool.false_eq_true, if_false]
    cases u <;> first | rfl | (simp [Value.oneCell'] at h; done) | (exact (hi rfl).elim)

theorem cmpI_rel {op : BinOp} {i j : Int} {c : Bool} (h : cmpI (O := std E N) op i j = some c) (T : TypeId) (k : IntKind) :
    (binOp op T (.int k i) (.int k j)).run P w = .ok (.bool c) w := by
  cases op <;> first | (cases h; done) | (have h' := Option.some.inj h; subst h'; simp [binOp, Op.intCmp, bne, iLt, iLe])

theorem eqC_rel {t : TypeId} {x y : AC0 E N} {u v : Value} {b : Bool} {d : Nat} (h : eqC (O := std E N) x y = some b) (hx : RelC P n0 β σ s w x u) (hy : RelC P n0 β σ s w y v)
    (kx : kindOk (lkOf P t) x = true) (ky : kindOk (lkOf P t) y = true) : (Op.equalIn (d + 1) t u v).run P w = .ok b w := by
  unfold eqC at h
  split at h
  · rename_i k i k' j
    split at h
    · rename_i hk
      have := ikEq_iff.1 hk; subst this
      cases h
      have hu : u = .int k i := hx
      have hv : v = .int k j := hy
      subst hu; subst hv
      unfold kindOk at kx
      split at kx
      · rename_i _ _ kk k2 i2 hlk hc
        exact run_equalIn_int w d t k _ i j (lkOf_int hlk)
      all_goals (first | (rename_i hc; cases hc; done) | cases kx)
    · cases h
  · rename_i i j
    cases h
    have hu : u = .bool i := hx
    have hv : v = .bool j := hy
    subst hu; subst hv
    unfold kindOk at kx
    split at kx
    · rename_i hc; cases hc
    · rename_i hlk hc; exact run_equalIn_bool' w d t i j (lkOf_bool hlk)
    · rename_i hc; cases hc
    · cases kx
  · rename_i i j
    cases h
    have hu : u = .string i := hx
    have hv : v = .string j := hy
    subst hu; subst hv
    unfold kindOk at kx
    split at kx
    · rename_i hc; cases hc
    · rename_i hc; cases hc
    · rename_i hlk hc; exact run_equalIn_string w d t i j (lkOf_str hlk)
    · cases kx
  · cases h


theorem optListEq_spec {a b : Option (List Nat)} (h : optListEq a b = true) : ∃ l, a = some l ∧ b = some l := by
  unfold optListEq at h
  split at h
  · rename_i x y; exact ⟨x, rfl, by rw [natListEq_iff.1 h]⟩
  · cases h

theorem eqCs_cons {x y : AC0 E N} {xs ys : List (AC0 E N)} {b : Bool} (h : eqCs (O := std E N) (x :: xs) (y :: ys) = some b) :
    ∃ b1 b2, eqC x y = some b1 ∧ eqCs xs ys = some b2 ∧ b = (b1 && b2) := by
  cases xs with
  | nil =>
    cases ys with
    | nil =>
      simp only [eqCs] at h
      have h2 : eqC x y = some b := h
      exact ⟨b, true, h2, rfl, by simp⟩
    | cons y2 ys =>
      simp only [eqCs] at h
      split at h
      · rename_i a r ha hr; cases hr
      · cases h
  | cons x2 xs =>
    cases ys with
    | nil =>
      simp only [eqCs] at h
      split at h
      · rename_i a r ha hr; cases hr
      · cases h
    | cons y2 ys =>
      simp only [eqCs] at h
      split at h
      · rename_i a r ha hr; cases h; exact ⟨a, r, ha, hr, rfl⟩
      · cases h

theorem eqCs_append : ∀ {xs1 ys1 xs2 ys2 : List (AC0 E N)} {b : Bool}, xs1.length = ys1.length → eqCs (O := std E N) (xs1 ++ xs2) (ys1 ++ ys2) = some b →
    ∃ b1 b2, eqCs xs1 ys1 = some b1 ∧ eqCs xs2 ys2 = some b2 ∧ b = (b1 && b2)
  | [], [], xs2, ys2, b, _, h => ⟨true, b, rfl, h, by simp⟩
  | x :: xs1, y :: ys1, xs2, ys2, b, hl, h => by
    obtain ⟨b1, b2, h1, h2, rfl⟩ := eqCs_cons h
    obtain ⟨b3, b4, h3, h4, rfl⟩ := eqCs_append (by simpa using hl) h2
    refine ⟨b1 && b3, b4, ?_, h4, by rw [Bool.and_assoc]⟩
    cases xs1 with
    | nil =>
      cases ys1 with
      | nil => cases h3; show eqC x y = some (b1 && true); rw [h1, Bool.and_true]
      | cons => simp at hl
    | cons x2 xs1 =>
      cases ys1 with
      | nil => simp at hl
      | cons y2 ys1 => simp only [eqCs, h1, h3]
  | [], _ :: _, _, _, _, hl, _ => by simp at hl
  | _ :: _, [], _, _, _, hl, _ => by simp at hl

theorem kindsOk_append : ∀ {ts1 ts2 : List TypeId} {xs1 xs2 : List (AC0 E N)}, ts1.length = xs1.length → kindsOk P (ts1 ++ ts2) (xs1 ++ xs2) = true → kindsOk P ts1 xs1 = true ∧ kindsOk P ts2 xs2 = true
  | [], ts2, [], xs2, _, h => ⟨rfl, h⟩
  | t :: ts1, ts2, x :: xs1, xs2, hl, h => by
    simp only [List.cons_append, kindsOk] at h
    split at h
    · rename_i hk
      obtain ⟨h1, h2⟩ := kindsOk_append (by simpa using hl) h
      exact ⟨by simp only [kindsOk, hk]; exact h1, h2⟩
    · cases h
  | [], _, _ :: _, _, hl, _ => by simp at hl
  | _ :: _, _, [], _, hl, _ => by simp at hl

theorem kindsOk_length : ∀ {ts : List TypeId} {xs : List (AC0 E N)}, kindsOk P ts xs = true → ts.length = xs.length
  | [], [], _ => rfl
  | t :: ts, x :: xs, h => by
    simp only [kindsOk] at h
    split at h
    · simp [kindsOk_length h]
    · cases h
  | [], _ :: _, h => by simp [kindsOk] at h
  | _ :: _, [], h => by simp [kindsOk] at h

/-- Values of a type, as the model has them. -/
def mkVal (P : Program) (T : TypeId) (vs : List Value) : Value := match isAggT P T, vs with
  | true, vs => .agg vs.toArray
  | false, [v] => v
  | _, _ => undef

theorem run_part' {T : TypeId} {off : Nat} {vs : Array Value} {d : TypeDesc} (hu : P.underlying T = some d) {l : List Value} (hl : l = (vs.toList.drop off).take (P.cellsOf T))
    (hn : l.length = P.cellsOf T) (hag : isAggT P T = true ∨ P.cellsOf T = 1) : (part T vs off).run P w = .ok (mkVal P T l) w := by
  obtain ⟨i, hi⟩ := info_of_underlying hu
  cases hb : isAggT P T with
  | true =>
    simp only [part, Sem.run_bind, run_isAgg' hu, hb, Result.andThen_ok, if_true, run_sizeOf' hi, Sem.run_map, Sem.run_pure, mkVal]
    congr 2
    apply Array.ext'
    rw [hl]
    simp [List.extract_eq_take_drop]
  | false =>
    have h1 : P.cellsOf T = 1 := by rcases hag with h | h; (rw [hb] at h; cases h); exact h
    match l, hn.trans h1 with
    | [x], _ =>
      have hc : vs[off]? = some x := by
        have : ((vs.toList.drop off).take (P.cellsOf T))[0]? = some x := by rw [← hl]; rfl
        rw [List.getElem?_take] at this
        split at this
        · rw [List.getElem?_drop] at this; simpa using this
        · cases this
      simp [part, run_isAgg' hu, hb, hc, mkVal]

theorem eqOk_under {n : Nat} {t : TypeId} (h : eqOk P n t = true) : ∃ d ts, P.underlying t = some d ∧ tysOf P t = some ts ∧ (isAggT P t = true ∨ ts.length = 1) := by
  cases n with
  | zero => cases h
  | succ n =>
    unfold eqOk at h
    split at h
    · rename_i hu; obtain ⟨l, h1, h2⟩ := optListEq_spec h; cases h2; exact ⟨_, _, hu, h1, .inr rfl⟩
    · rename_i hu; obtain ⟨l, h1, h2⟩ := optListEq_spec h; cases h2; exact ⟨_, _, hu, h1, .inr rfl⟩
    · rename_i hu; obtain ⟨l, h1, h2⟩ := optListEq_spec h; cases h2; exact ⟨_, _, hu, h1, .inr rfl⟩
    · rename_i fs hu
      simp only [Bool.and_eq_true] at h
      obtain ⟨l, h1, h2⟩ := optListEq_spec h.2
      exact ⟨_, _, hu, h1, .inl (by unfold isAggT; rw [hu])⟩
    · rename_i k e hu
      simp only [Bool.and_eq_true] at h
      obtain ⟨l, h1, h2⟩ := optListEq_spec h.2
      exact ⟨_, _, hu, h1, .inl (by unfold isAggT; rw [hu])⟩
    · cases h

theorem RelCs.split {xs : List (AC0 E N)} {vs : List Value} (n : Nat) (h : RelCs P n0 β σ s w xs vs) : RelCs P n0 β σ s w (xs.take n) (vs.take n) ∧ RelCs P n0 β σ s w (xs.drop n) (vs.drop n) :=
  ⟨RelCs.take n h, RelCs.drop n h⟩

theorem equalIn_rel : ∀ (n d : Nat) (T : TypeId) (ts : List TypeId) (xs ys : List (AC0 E N)) (vs us : List Value) (b : Bool), n ≤ d → eqOk P n T = true → tysOf P T = some ts →
    RelCs P n0 β σ s w xs vs → RelCs P n0 β σ s w ys us → kindsOk P ts xs = true → kindsOk P ts ys = true → eqCs (O := std E N) xs ys = some b →
    (Op.equalIn d T (mkVal P T vs) (mkVal P T us)).run P w = .ok b w
  | 0, d, T, ts, xs, ys, vs, us, b, hd, h, _, _, _, _, _, _ => by cases h
  | n + 1, d, T, ts, xs, ys, vs, us, b, hd, h, hts, hx, hy, kx, ky, he => by
    obtain ⟨d, rfl⟩ : ∃ d', d = d' + 1 := ⟨d - 1, by omega⟩
    have lx := (kindsOk_length kx).trans (RelCs.length hx)
    have ly := (kindsOk_length ky).trans (RelCs.length hy)
    have base : ∀ (hb : isAggT P T = false) (h1 : tysOf P T = some [T]), (Op.equalIn (d + 1) T (mkVal P T vs) (mkVal P T us)).run P w = .ok b w := by
      intro hb h1
      rw [hts] at h1; cases h1
      match xs, ys, vs, us, lx, ly, kindsOk_length kx, kindsOk_length ky with
      | [x], [y], [v], [u], _, _, _, _ =>
        simp only [mkVal, hb]
        simp only [eqCs] at he
        refine eqC_rel he hx.1 hy.1 (t := T) ?_ ?_
        · simp only [kindsOk] at kx; split at kx <;> first | assumption | cases kx
        · simp only [kindsOk] at ky; split at ky <;> first | assumption | cases ky
    unfold eqOk at h
    split at h
    · rename_i hu; obtain ⟨l, h1, h2⟩ := optListEq_spec h; cases h2; exact base (by unfold isAggT; rw [hu]) h1
    · rename_i hu; obtain ⟨l, h1, h2⟩ := optListEq_spec h; cases h2; exact base (by unfold isAggT; rw [hu]) h1
    · rename_i hu; obtain ⟨l, h1, h2⟩ := optListEq_spec h; cases h2; exact base (by unfold isAggT; rw [hu]) h1
    · rename_i fs hu
      simp only [Bool.and_eq_true, Bool.not_eq_true'] at h
      obtain ⟨⟨⟨hst, hfa⟩, hall⟩, hcat⟩ := h
      obtain ⟨l, h1, h2⟩ := optListEq_spec hcat
      rw [hts] at h1; cases h1
      have hag : isAggT P T = true := by unfold isAggT; rw [hu]
      have hfo : P.fieldsOf T = fs := by unfold Program.fieldsOf; rw [hu]
      simp only [mkVal, hag]
      rw [run_equalIn_struct w d T _ _ (by rw [hfo]; exact hu) hst, hfo]
      -- the fields, one behind the other
      have key : ∀ (fl : List Field) (off : Nat) (tl : List TypeId) (xs ys : List (AC0 E N)) (b : Bool), fieldsAt P off fl = true → (fl.all fun f => eqOk P n f.type) = true →
          catO (fl.map fun f => tysOf P f.type) = some tl → RelCs P n0 β σ s w xs (vs.drop off) → RelCs P n0 β σ s w ys (us.drop off) → kindsOk P tl xs = true → kindsOk P tl ys = true →
          eqCs (O := std E N) xs ys = some b → (Op.eqFields d vs.toArray us.toArray fl).run P w = .ok b w := by
        intro fl
        induction fl with
        | nil =>
          intro off tl xs ys b _ _ hc _ _ kx ky he
          simp only [List.map_nil, catO] at hc; cases hc
          cases xs with
          | cons => simp [kindsOk] at kx
          | nil =>
            cases ys with
            | cons => simp [kindsOk] at ky
            | nil => cases he; simp [Op.eqFields]
        | cons f fl ih =>
          intro off tl xs ys b hfa hall hc hx hy kx ky he
          simp only [fieldsAt] at hfa
          split at hfa
          · rename_i hfo
            simp only [Bool.and_eq_true, bne_iff_ne, ne_eq] at hfo
            have hoff := natBeq_iff.1 hfo.1
            simp only [List.all_cons, Bool.and_eq_true] at hall
            simp only [List.map_cons] at hc
            cases heq : tysOf P f.type with
            | none => rw [heq] at hc; simp [catO] at hc
            | some t1 =>
              rw [heq] at hc
              simp only [catO] at hc
              split at hc
              · rename_i t2 ht2
                cases hc
                obtain ⟨hsz, hpos⟩ := tysOf_size heq
                obtain ⟨dd, ts', hdu, hts', hagg⟩ := eqOk_under hall.1
                rw [heq] at hts'; cases hts'
                have kxl := kindsOk_length kx
                have kyl := kindsOk_length ky
                simp only [List.length_append] at kxl kyl
                have ex : xs = xs.take t1.length ++ xs.drop t1.length := (List.take_append_drop _ _).symm
                have ey : ys = ys.take t1.length ++ ys.drop t1.length := (List.take_append_drop _ _).symm
                rw [ex] at kx; rw [ey] at ky; rw [ex, ey] at he
                obtain ⟨kx1, kx2⟩ := kindsOk_append (by simp; omega) kx
                obtain ⟨ky1, ky2⟩ := kindsOk_append (by simp; omega) ky
                obtain ⟨b1, b2, e1, e2, rfl⟩ := eqCs_append (by simp; omega) he
                obtain ⟨rx1, rx2⟩ := RelCs.split t1.length hx
                obtain ⟨ry1, ry2⟩ := RelCs.split t1.length hy
                have p1 := run_part' (P := P) (w := w) (T := f.type) (off := f.offset) (vs := vs.toArray) hdu (l := (vs.drop off).take t1.length) (by rw [hoff, hsz]) (by rw [hsz, ← RelCs.length rx1]; simp; omega) (by rw [hsz]; exact hagg)
                have p2 := run_part' (P := P) (w := w) (T := f.type) (off := f.offset) (vs := us.toArray) hdu (l := (us.drop off).take t1.length) (by rw [hoff, hsz]) (by rw [hsz, ← RelCs.length ry1]; simp; omega) (by rw [hsz]; exact hagg)
                have p3 := equalIn_rel n d f.type t1 _ _ _ _ b1 (by omega) hall.1 heq rx1 ry1 kx1 ky1 e1
                rw [List.drop_drop] at rx2 ry2
                have p4 := ih (off + P.cellsOf f.type) t2 _ _ b2 hfa hall.2 ht2 (by rw [hsz]; exact rx2) (by rw [hsz]; exact ry2) kx2 ky2 e2
                simp only [Op.eqFields, ne_eq, hfo.2, not_false_eq_true, if_true, Sem.run_bind, p1, p2, p3, Result.andThen_ok]
                cases b1
                · simp
                · simpa using p4
              · cases hc
          · cases hfa
      have := key fs.toList 0 ts xs ys b hfa hall h2 (by simpa using hx) (by simpa using hy) kx ky he
      exact this
    · rename_i k e hu
      simp only [Bool.and_eq_true] at h
      obtain ⟨hek, hcat⟩ := h
      obtain ⟨l, h1, h2⟩ := optListEq_spec hcat
      rw [hts] at h1; cases h1
      have hag : isAggT P T = true := by unfold isAggT; rw [hu]
      obtain ⟨dd, te, hdu, hte, hagg⟩ := eqOk_under hek
      obtain ⟨hsz, hpos⟩ := tysOf_size hte
      obtain ⟨i, hi⟩ := info_of_underlying hdu
      simp only [mkVal, hag]
      rw [run_equalIn_array w d _ _ hu hi, List.range_eq_range']
      rw [hte] at h2
      simp only [Option.map_some, Option.some.injEq] at h2
      have key : ∀ (k q : Nat) (xs ys : List (AC0 E N)) (b : Bool), RelCs P n0 β σ s w xs (vs.drop (q * te.length)) → RelCs P n0 β σ s w ys (us.drop (q * te.length)) →
          kindsOk P (repL k te) xs = true → kindsOk P (repL k te) ys = true → eqCs (O := std E N) xs ys = some b →
          (Op.eqItems d e (P.cellsOf e) vs.toArray us.toArray (List.range' q k)).run P w = .ok b w := by
        intro k
        induction k with
        | zero =>
          intro q xs ys b _ _ kx ky he
          simp only [repL] at kx ky
          cases xs with
          | cons => simp [kindsOk] at kx
          | nil =>
            cases ys with
            | cons => simp [kindsOk] at ky
            | nil => cases he; simp [Op.eqItems]
        | succ k ih =>
          intro q xs ys b hx hy kx ky he
          simp only [repL] at kx ky
          have kxl := kindsOk_length kx
          have kyl := kindsOk_length ky
          simp only [List.length_append] at kxl kyl
          have ex : xs = xs.take te.length ++ xs.drop te.length := (List.take_append_drop _ _).symm
          have ey : ys = ys.take te.length ++ ys.drop te.length := (List.take_append_drop _ _).symm
          rw [ex] at kx; rw [ey] at ky; rw [ex, ey] at he
          obtain ⟨kx1, kx2⟩ := kindsOk_append (by simp; omega) kx
          obtain ⟨ky1, ky2⟩ := kindsOk_append (by simp; omega) ky
          obtain ⟨b1, b2, e1, e2, rfl⟩ := eqCs_append (by simp; omega) he
          obtain ⟨rx1, rx2⟩ := RelCs.split te.length hx
          obtain ⟨ry1, ry2⟩ := RelCs.split te.length hy
          have p1 := run_part' (P := P) (w := w) (T := e) (off := q * P.cellsOf e) (vs := vs.toArray) hdu (l := (vs.drop (q * te.length)).take te.length) (by rw [hsz]) (by rw [hsz, ← RelCs.length rx1]; simp; omega) (by rw [hsz]; exact hagg)
          have p2 := run_part' (P := P) (w := w) (T := e) (off := q * P.cellsOf e) (vs := us.toArray) hdu (l := (us.drop (q * te.length)).take te.length) (by rw [hsz]) (by rw [hsz, ← RelCs.length ry1]; simp; omega) (by rw [hsz]; exact hagg)
          have p3 := equalIn_rel n d e te _ _ _ _ b1 (by omega) hek hte rx1 ry1 kx1 ky1 e1
          rw [List.drop_drop] at rx2 ry2
          have hq : q * te.length + te.length = (q + 1) * te.length := by rw [Nat.add_mul, Nat.one_mul]
          rw [hq] at rx2 ry2
          have p4 := ih (q + 1) _ _ b2 rx2 ry2 kx2 ky2 e2
          simp only [List.range'_succ, Op.eqItems, Sem.run_bind, p1, p2, p3, Result.andThen_ok]
          cases b1
          · simp
          · simpa using p4
      rw [← h2] at kx ky
      exact key k 0 xs ys b (by simpa using hx) (by simpa using hy) kx ky he
    · cases h

end
end Go.Px
