/-
The laws of an innings: ways of being out.
The laws of an innings: events.
The laws of an innings: what an event does.
The laws of an innings: the step.
The laws of an innings: the step, lists that grow little, states that are the same.
The laws of an innings: the step of the reference; states that are the same; InningsSteps.
-/
import Derived.Test.YtopmcbahdgfleaaGreatPart10
section
namespace Go.Px
set_option linter.unusedVariables false
set_option linter.unusedSimpArgs false
set_option maxRecDepth 100000

def onS (h t : Int) : Bool :=
  cond (h == 1 || h == 2 || h == 3) (t == 1) (cond (h == 4 || h == 5) (t == 1 || t == 2) (cond (h == 7) (t == 1 || t == 3) (cond (h == 6 || h == 8) (t == 1 || t == 2 || t == 3) false)))
def freeS (h : Int) : Bool := h == 6 || h == 7 || h == 8
def eitherS (h : Int) : Bool := h == 6 || h == 8
def mustS (h : Int) : Bool := h == 2 || h == 4 || h == 6
theorem L_r10_onFree {N : Nat} {h : Int}  : c_r10_onFree N [.int h] = some [.bool (freeS h)] := by
  show t_r10_onFree (std (env_r10_onFree N) N) (xOf _) = _
  simp only [t_r10_onFree, std, xOf, PXb, PXc, PXn, PXm, Nat.reduceAdd, Int.reduceBEq, freeS]
theorem L_r10_on {N : Nat} {h : Int} {t : Int}  : c_r10_on N [.int h, .int t] = some [.bool (onS h t)] := by
  show t_r10_on (std (env_r10_on N) N) (xOf _) = _
  simp only [t_r10_on, std, xOf, PXb, PXc, PXn, PXm, Nat.reduceAdd, Int.reduceBEq]
  unfold onS
  simp only [Bool.or_assoc, PXb, PXc, PXn, PXm, Nat.reduceAdd, Int.reduceBEq]
theorem L_r10_Fielders {N : Nat} {h : Int}  : c_r10_Fielders N [.int h] = some [.bool (mustS h), .bool (mustS h), .bool (h == 6)] := by
  show t_r10_Fielders (std (env_r10_Fielders N) N) (xOf _) = _
  simp only [t_r10_Fielders, std, xOf, PXb, PXc, PXn, PXm, Nat.reduceAdd, Int.reduceBEq, mustS]
def possS (d : Del) (free : Bool) : Int :=
  cond (d.how == 0) (cond (!(d.victim == 0)) 14 (cond (!(d.fielder == 0) || !(d.second == 0) || d.sub) 15 0))
    (cond (!onS d.how d.type || free && !freeS d.how) 13 (cond (!eitherS d.how && (!(d.source == 0) || !(d.runs == 0))) 12
      (cond (!(d.victim == 1) && !(d.victim == 2 && eitherS d.how)) 14
        (cond (mustS d.how && !btw d.fielder 1 11 || !mustS d.how && !(d.fielder == 0)) 15
          (cond (!(d.second == 0) && (!(d.how == 6) || !btw d.second 1 11 || d.second == d.fielder)) 15
            (cond (d.sub && !(d.how == 2) && !(d.how == 6)) 18 0))))))
theorem L_r10_Possible {N : Nat} {d0 d1 d2 d3 d4 d6 d7 d8 d9 d11 : Int} {d5 d10 : Bool} {f : Bool}  : c_r10_Possible N [.int d0, .int d1, .int d2, .int d3, .int d4, .bool d5, .int d6, .int d7, .int d8, .int d9, .bool d10, .int d11, .bool f] = some [.int (possS (⟨d0, d1, d2, d3, d4, d5, d6, d7, d8, d9, d10, d11⟩ : Del) f)] := by
  show t_r10_Possible (std (env_r10_Possible N) N) (xOf _) = _
  generalize hres : (some [.int (possS (⟨d0, d1, d2, d3, d4, d5, d6, d7, d8, d9, d10, d11⟩ : Del) f)] : Option (List PV)) = RR
  simp only [t_r10_Possible, e_r10_Possible_r10_Fielders, e_r10_Possible_r10_on, e_r10_Possible_r10_onFree, std, xOf, PXb, PXc, PXn, PXm, Nat.reduceAdd, Int.reduceBEq, L_r10_on, L_r10_onFree, L_r10_Fielders]
  subst hres; simp only [possS, nbtw, eitherS, Bool.not_or, Bool.not_and, Bool.or_assoc]
  cases onS d6 d0 <;> cases f <;> cases freeS d6 <;> rfl
def wayT : Rows := match c_dismissal_table 0 [] with
  | some [.rows l] => l
  | _ => []
theorem L_dismissal_table {N : Nat} : c_dismissal_table N [] = some [.rows wayT] := rfl
theorem wayT_len : wayT.length = 11 := rfl
theorem L_dismissal_way_on {N : Nat} {h : Int} {n : ByteArray} {b : Bool} {c : Bool} {d : Bool} {e : Bool} {x : Bool} {t : Int}  : c_dismissal_way_on N [.int h, .str n, .bool b, .bool c, .bool d, .bool e, .bool x, .int t] = some [.bool (t == 1 && b || t == 2 && c || t == 3 && d)] := by
  show t_dismissal_way_on (std (env_dismissal_way_on N) N) (xOf _) = _
  simp only [t_dismissal_way_on, std, xOf, PXb, PXc, PXn, PXm, Nat.reduceAdd, Int.reduceBEq]
theorem L_dismissal_fielders_1 {N : Nat} {n : Int}  : c_dismissal_fielders_1 N [.int n] = some [.bool (btw n 1 11)] := by
  show t_dismissal_fielders_1 (std (env_dismissal_fielders_1 N) N) (xOf _) = _
  simp only [t_dismissal_fielders_1, std, xOf, PXb, PXc, PXn, PXm, Nat.reduceAdd, Int.reduceBEq]
  rfl
def wBit (i j : Nat) : Bool := pvB (pvAt wayT i j)
def wOk (t : Int) (free : Bool) (i : Nat) : Bool :=
  (t == 1 && wBit i 2 || t == 2 && wBit i 3 || t == 3 && wBit i 4) && (!free || atI wayT i 0 == 6 || atI wayT i 0 == 7 || atI wayT i 0 == 8)
def waysR (t : Int) (free : Bool) : Nat → Rows
  | 0 => []
  | i + 1 => cond (wOk t free i) (waysR t free i ++ [[.int (atI wayT i 0)]]) (waysR t free i)
theorem ways_len (t : Int) (free : Bool) : ∀ i, (waysR t free i).length ≤ i
  | 0 => Nat.le_refl _
  | i + 1 => by
    have := ways_len t free i
    unfold waysR
    cases wOk t free i
    · exact Nat.le_succ_of_le this
    · simp; exact this
theorem L_dismissal_Ways {N : Nat} {t : Int} {f : Bool} (hN : 2097152 < N) : c_dismissal_Ways N [.int t, .bool f] = some [.rows (waysR t f 11)] := by
  show t_dismissal_Ways (std (env_dismissal_Ways N) N) (xOf _) = _
  simp only [t_dismissal_Ways, e_dismissal_Ways_dismissal_table, e_dismissal_Ways_dismissal_way_on, std, xOf, PXb, PXc, PXn, bind_c, L_dismissal_table, L_dismissal_way_on]
  refine bind_loop (iter_all (len := wayT.length) (fun i => [.rows (waysR t f i), .int (i : Int)]) [.rows (waysR t f 11)] ?_ ?_ N (by rw [wayT_len]; omega)) rfl
  · intro self
    simp only [PXb, PXc, PXn, bind_c, ge_len]
    rfl
  · intro i self hi
    have hi2 : i < 11 := hi
    have h2 : (waysR t f i ++ [[PV.int (atI wayT i 0)]]).length ≤ 4194304 := by have := ways_len t f i; simp; omega
    simp only [PXb, PXc, bind_c, wrap_nat (show i ≤ 1099511627776 by omega), lt_len hi, in_range hi, atI_def, waysR, sm_ok h2 (show 1 ≤ 4096 by omega)]
    unfold wOk wBit
    cases ((t == 1 && pvB (pvAt wayT i 2) || t == 2 && pvB (pvAt wayT i 3) || t == 3 && pvB (pvAt wayT i 4)) && (!f || atI wayT i 0 == 6 || atI wayT i 0 == 7 || atI wayT i 0 == 8)) <;> rfl
theorem L_slices_Index_How {N : Nat} {L : Rows} {v : Int} (hN : L.length < N) (hl : L.length ≤ 1048576) : c_slices_Index_How N [.rows L, .int v] = some [.int (idxR (fun j => v == atI L j 0) L.length)] := by
  show t_slices_Index_How (std (env_slices_Index_How N) N) (xOf _) = _
  simp only [t_slices_Index_How, std, xOf, PXb, PXc, PXn, bind_c]
  refine bind_loop (iter_find (len := L.length) (seek fun j => v == atI L j 0) ?_ ?_ L.length 0 N (by omega) (by omega)) ?_
  · intro self
    simp only [PXb, PXc, PXn, bind_c, ge_len]
  · intro i self hi
    simp only [PXb, PXc, PXn, bind_c, wrap_nat (show i ≤ 1099511627776 by omega), lt_len hi, in_range hi, seek, atI_def]
    cases v == atI L i 0 <;> rfl
  · unfold idxR
    cases findR (seek fun j => v == atI L j 0) L.length 0 <;> rfl
theorem L_slices_Contains_How {N : Nat} {L : Rows} {v : Int} (hN : L.length < N) (hl : L.length ≤ 1048576) : c_slices_Contains_How N [.rows L, .int v] = some [.bool (hasI L L.length v)] := by
  show t_slices_Contains_How (std (env_slices_Contains_How N) N) (xOf _) = _
  simp only [t_slices_Contains_How, e_slices_Contains_How_slices_Index_How, std, xOf, PXb, PXc, PXn, bind_c, L_slices_Index_How hN hl, idx_nonneg, hasI]
theorem has_anyL (L : Rows) (v : Int) : hasI L L.length v = anyL (fun x => v == x) L := rfl
theorem anyL_c (p : Int → Bool) (b : Bool) (L : Rows) (x : Int) : anyL p (cond b (L ++ [[.int x]]) L) = (anyL p L || (b && p x)) := by
  cases b with
  | false => simp
  | true => rw [cond_true, anyL_app, Bool.true_and]; congr 1; rw [anyL_any]; simp [cellAt, pvI]
theorem ways_any (t : Int) (free : Bool) (p : Int → Bool) : ∀ i, anyL p (waysR t free i) = anyR (fun j => wOk t free j && p (atI wayT j 0)) i 0
  | 0 => rfl
  | i + 1 => by rw [anyR_last, ← ways_any t free p i, waysR, anyL_c, Nat.zero_add]
theorem ways_has (t h : Int) (free : Bool) : hasI (waysR t free 11) (waysR t free 11).length h = (onS h t && (!free || freeS h)) := by
  rw [has_anyL, ways_any]
  have key : ∀ j, j < 11 → atI wayT j 0 = j := by
    intro j hj
    have : j = 0 ∨ j = 1 ∨ j = 2 ∨ j = 3 ∨ j = 4 ∨ j = 5 ∨ j = 6 ∨ j = 7 ∨ j = 8 ∨ j = 9 ∨ j = 10 := by omega
    rcases this with h | h | h | h | h | h | h | h | h | h | h <;> subst h <;> rfl
  by_cases hr : 0 ≤ h ∧ h ≤ 10
  · obtain ⟨k, rfl⟩ : ∃ k : Nat, h = k := ⟨h.toNat, by omega⟩
    have : k = 0 ∨ k = 1 ∨ k = 2 ∨ k = 3 ∨ k = 4 ∨ k = 5 ∨ k = 6 ∨ k = 7 ∨ k = 8 ∨ k = 9 ∨ k = 10 := by omega
    rcases this with h | h | h | h | h | h | h | h | h | h | h <;> subst h <;> simp only [anyR_succ, anyR_zero, wOk, onS] <;> cases free <;> cases t == 1 <;> cases t == 2 <;> cases t == 3 <;> rfl
  · rw [anyR_false.2 fun j _ hj => by
      rw [key j (by omega), show (h == (j : Int)) = false from beq_false_of_ne (by omega), Bool.and_false]]
    have e : ∀ n : Int, 0 ≤ n → n ≤ 10 → (h == n) = false := fun n h0 h1 => beq_false_of_ne (by omega)
    unfold onS
    rw [e 1 (by omega) (by omega), e 2 (by omega) (by omega), e 3 (by omega) (by omega), e 4 (by omega) (by omega), e 5 (by omega) (by omega), e 6 (by omega) (by omega), e 7 (by omega) (by omega), e 8 (by omega) (by omega)]
    rfl
/-- The line of a way. -/
def lineR (h : Int) : List PV := match findR (fun i => cond (atI wayT i 0 == h) (some [.int (pvI (pvAt wayT i 0)), .str (pvS (pvAt wayT i 1)), .bool (pvB (pvAt wayT i 2)), .bool (pvB (pvAt wayT i 3)), .bool (pvB (pvAt wayT i 4)), .bool (pvB (pvAt wayT i 5)), .bool (pvB (pvAt wayT i 6))]) none) 11 0 with
  | some r => r
  | none => [.int 0, .str ⟨#[]⟩, .bool false, .bool false, .bool false, .bool false, .bool false]
theorem findR_some {ans : Nat → Option (List PV)} {r : List PV} : ∀ (k i : Nat), findR ans k i = some r → ∃ j, i ≤ j ∧ j < i + k ∧ ans j = some r
  | 0, i, h => by cases h
  | k + 1, i, h => by
    simp only [findR] at h
    cases ha : ans i with
    | some x => rw [ha] at h; cases h; exact ⟨i, Nat.le_refl _, by omega, ha⟩
    | none =>
      rw [ha] at h
      obtain ⟨j, h1, h2, h3⟩ := findR_some k (i + 1) h
      exact ⟨j, by omega, by omega, h3⟩
theorem line_len (h : Int) : ∃ a b c d e f g, lineR h = [.int a, .str b, .bool c, .bool d, .bool e, .bool f, .bool g] := by
  unfold lineR
  generalize hf : findR _ 11 0 = o
  cases o with
  | none => exact ⟨_, _, _, _, _, _, _, rfl⟩
  | some r =>
    obtain ⟨j, _, _, h3⟩ := findR_some _ _ hf
    cases hb : atI wayT j 0 == h with
    | false => rw [hb] at h3; cases h3
    | true => rw [hb] at h3; cases h3; exact ⟨_, _, _, _, _, _, _, rfl⟩
theorem L_dismissal_of {N : Nat} {h : Int} (hN : 2097152 < N) : c_dismissal_of N [.int h] = some (lineR h) := by
  show t_dismissal_of (std (env_dismissal_of N) N) (xOf _) = _
  simp only [t_dismissal_of, e_dismissal_of_dismissal_table, std, xOf, PXb, PXc, PXn, bind_c, L_dismissal_table]
  refine bind_loop (iter_find (len := wayT.length) (fun i => cond (atI wayT i 0 == h) (some [.int (pvI (pvAt wayT i 0)), .str (pvS (pvAt wayT i 1)), .bool (pvB (pvAt wayT i 2)), .bool (pvB (pvAt wayT i 3)), .bool (pvB (pvAt wayT i 4)), .bool (pvB (pvAt wayT i 5)), .bool (pvB (pvAt wayT i 6))]) none) ?_ ?_ wayT.length 0 N (by omega) (by rw [wayT_len]; omega)) ?_
  · intro self
    simp only [PXb, PXc, PXn, bind_c, ge_len]
  · intro i self hi
    have hi2 : i < 11 := hi
    simp only [PXb, PXc, PXn, bind_c, wrap_nat (show i ≤ 1099511627776 by omega), lt_len hi, in_range hi, atI_def]
    cases atI wayT i 0 == h <;> rfl
  · unfold lineR
    rw [wayT_len]
    generalize hf : findR _ 11 0 = o
    cases o with
    | none => rfl
    | some r =>
      obtain ⟨j, _, _, h3⟩ := findR_some _ _ hf
      cases hb : atI wayT j 0 == h with
      | false => rw [hb] at h3; cases h3
      | true => rw [hb] at h3; cases h3; rfl
theorem line_bits (h : Int) : pvB (cellAt (lineR h) 5) = mustS h ∧ pvB (cellAt (lineR h) 6) = eitherS h := by
  by_cases hr : 0 ≤ h ∧ h ≤ 10
  · obtain ⟨k, rfl⟩ : ∃ k : Nat, h = k := ⟨h.toNat, by omega⟩
    have : k = 0 ∨ k = 1 ∨ k = 2 ∨ k = 3 ∨ k = 4 ∨ k = 5 ∨ k = 6 ∨ k = 7 ∨ k = 8 ∨ k = 9 ∨ k = 10 := by omega
    rcases this with h | h | h | h | h | h | h | h | h | h | h <;> subst h <;> exact ⟨rfl, rfl⟩
  · have e : ∀ n : Int, 0 ≤ n → n ≤ 10 → (h == n) = false := fun n h0 h1 => beq_false_of_ne (by omega)
    have key : ∀ j, j < 11 → atI wayT j 0 = j := by
      intro j hj
      have : j = 0 ∨ j = 1 ∨ j = 2 ∨ j = 3 ∨ j = 4 ∨ j = 5 ∨ j = 6 ∨ j = 7 ∨ j = 8 ∨ j = 9 ∨ j = 10 := by omega
      rcases this with h | h | h | h | h | h | h | h | h | h | h <;> subst h <;> rfl
    unfold lineR
    generalize hf : findR _ 11 0 = o
    cases o with
    | none =>
      unfold mustS eitherS
      rw [e 2 (by omega) (by omega), e 4 (by omega) (by omega), e 6 (by omega) (by omega), e 8 (by omega) (by omega)]
      exact ⟨rfl, rfl⟩
    | some r =>
      obtain ⟨j, _, hj, h3⟩ := findR_some _ _ hf
      rw [key j (by omega), show ((j : Int) == h) = false from beq_false_of_ne (by omega)] at h3
      cases h3
def fieldersS (d : Del) (m : Bool) : Bool :=
  !(!(m == btw d.fielder 1 11) || !m && !(d.fielder == 0)) && (d.second == 0 || d.how == 6 && btw d.second 1 11 && !(d.second == d.fielder))
theorem L_dismissal_fielders {N : Nat} {d0 d1 d2 d3 d4 d6 d7 d8 d9 d11 : Int} {d5 d10 : Bool} {a : Int} {n : ByteArray} {b : Bool} {c : Bool} {e : Bool} {f : Bool} {g : Bool}  : c_dismissal_fielders N [.int d0, .int d1, .int d2, .int d3, .int d4, .bool d5, .int d6, .int d7, .int d8, .int d9, .bool d10, .int d11, .int a, .str n, .bool b, .bool c, .bool e, .bool f, .bool g] = some [.bool (fieldersS (⟨d0, d1, d2, d3, d4, d5, d6, d7, d8, d9, d10, d11⟩ : Del) f)] := by
  show t_dismissal_fielders (std (env_dismissal_fielders N) N) (xOf _) = _
  generalize hres : (some [.bool (fieldersS (⟨d0, d1, d2, d3, d4, d5, d6, d7, d8, d9, d10, d11⟩ : Del) f)] : Option (List PV)) = RR
  simp only [t_dismissal_fielders, e_dismissal_fielders_dismissal_fielders_1, std, xOf, PXb, PXc, PXn, PXm, Nat.reduceAdd, Int.reduceBEq, L_dismissal_fielders_1]
  subst hres; simp only [fieldersS]
  cases d9 == 0 <;> cases d6 == 6 <;> cases f <;> cases btw d8 1 11 <;> cases d8 == 0 <;> first | rfl | (cases btw d9 1 11 <;> rfl)
theorem c_or2 {α : Type} (a b : Bool) (x y : α) : cond (a || b) x y = cond a x (cond b x y) := by cases a <;> rfl
theorem fielders_eq (d : Del) (m : Bool) : (!fieldersS d m) = ((m && !btw d.fielder 1 11 || !m && !(d.fielder == 0)) || (!(d.second == 0) && (!(d.how == 6) || !btw d.second 1 11 || d.second == d.fielder))) := by
  unfold fieldersS
  cases hb : btw d.fielder 1 11 <;> cases hf : d.fielder == 0
  · cases m <;> cases d.second == 0 <;> cases d.how == 6 <;> cases btw d.second 1 11 <;> cases d.second == d.fielder <;> rfl
  · cases m <;> cases d.second == 0 <;> cases d.how == 6 <;> cases btw d.second 1 11 <;> cases d.second == d.fielder <;> rfl
  · cases m <;> cases d.second == 0 <;> cases d.how == 6 <;> cases btw d.second 1 11 <;> cases d.second == d.fielder <;> rfl
  · rw [beq_iff_eq.1 hf] at hb; exact absurd hb (by decide)
theorem L_dismissal_Possible {N : Nat} {d0 d1 d2 d3 d4 d6 d7 d8 d9 d11 : Int} {d5 d10 : Bool} {f : Bool} (hN : 2097152 < N) : c_dismissal_Possible N [.int d0, .int d1, .int d2, .int d3, .int d4, .bool d5, .int d6, .int d7, .int d8, .int d9, .bool d10, .int d11, .bool f] = some [.int (possS (⟨d0, d1, d2, d3, d4, d5, d6, d7, d8, d9, d10, d11⟩ : Del) f)] := by
  show t_dismissal_Possible (std (env_dismissal_Possible N) N) (xOf _) = _
  generalize hres : (some [.int (possS (⟨d0, d1, d2, d3, d4, d5, d6, d7, d8, d9, d10, d11⟩ : Del) f)] : Option (List PV)) = RR
  have hl := ways_len d0 f 11
  obtain ⟨a, b, c, d, e, m, g, hline⟩ := line_len d6
  have hbits := line_bits d6
  rw [hline] at hbits
  have hm : m = mustS d6 := hbits.1
  have hg : g = eitherS d6 := hbits.2
  have h1 : (waysR d0 f 11).length < N := by omega
  have h2 : (waysR d0 f 11).length ≤ 1048576 := by omega
  simp only [t_dismissal_Possible, e_dismissal_Possible_dismissal_of, e_dismissal_Possible_slices_Contains_How, e_dismissal_Possible_dismissal_Ways, e_dismissal_Possible_dismissal_fielders, std, xOf, PXb, PXc, PXn, PXm, Nat.reduceAdd, Int.reduceBEq, L_dismissal_of hN, hline, L_dismissal_Ways hN, L_slices_Contains_How h1 h2, ways_has, L_dismissal_fielders, fielders_eq]
  subst hres; simp only [possS, c_or2]
  rw [hm, hg]
  unfold eitherS
  cases d6 == 0 <;> cases onS d6 d0 <;> cases f <;> cases freeS d6 <;> try rfl
  all_goals (cases d6 == 6 <;> cases d6 == 8 <;> cases d7 == 2 <;> rfl)
end Go.Px
end

section
namespace Go.Px
set_option linter.unusedVariables false
set_option linter.unusedSimpArgs false
set_option maxRecDepth 100000

theorem L_notation_between {N : Nat} {a : Int} {b : Int} {c : Int}  : c_notation_between N [.int a, .int b, .int c] = some [.bool (btw a b c)] := by
  show t_notation_between (std (env_notation_between N) N) (xOf _) = _
  show some [PV.bool (cond (iLe b a) (iLe a c) false)] = _
  rw [c_and]; rfl
theorem L_r07_in {N : Nat} {a : Int} {b : Int} {c : Int}  : c_r07_in N [.int a, .int b, .int c] = some [.bool (btw a b c)] := by
  show t_r07_in (std (env_r07_in N) N) (xOf _) = _
  show some [PV.bool (cond (iLe b a) (iLe a c) false)] = _
  rw [c_and]; rfl
theorem L_event_between {N : Nat} {a : Int} {b : Int} {c : Int}  : c_event_between N [.int a, .int b, .int c] = some [.bool (btw a b c)] := by
  show t_event_between (std (env_event_between N) N) (xOf _) = _
  show some [PV.bool (cond (iLe b a) (iLe a c) false)] = _
  rw [c_and]; rfl
theorem L_r08_in {N : Nat} {a : Int} {b : Int} {c : Int}  : c_r08_in N [.int a, .int b, .int c] = some [.bool (btw a b c)] := by
  show t_r08_in (std (env_r08_in N) N) (xOf _) = _
  show some [PV.bool (cond (iLe b a) (iLe a c) false)] = _
  rw [c_and]; rfl
def noteS (d : Del) : Int :=
  cond (iLt d.type 1 || iLt 3 d.type || iLt 3 d.source || iLt 10 d.how) 3
    (cond (!btw d.runs 0 7 || !btw d.short 0 d.runs || (!(d.boundary == 0) && !(d.boundary == 4) && !(d.boundary == 6)) || !btw d.victim 0 2 || !btw d.fielder 0 11 || !btw d.second 0 11 || !btw d.sector 0 8) 2 0)
theorem L_notation_Check {N : Nat} {d0 d1 d2 d3 d4 d6 d7 d8 d9 d11 : Int} {d5 d10 : Bool}  : c_notation_Check N [.int d0, .int d1, .int d2, .int d3, .int d4, .bool d5, .int d6, .int d7, .int d8, .int d9, .bool d10, .int d11] = some [.int (noteS (⟨d0, d1, d2, d3, d4, d5, d6, d7, d8, d9, d10, d11⟩ : Del))] := by
  show t_notation_Check (std (env_notation_Check N) N) (xOf _) = _
  generalize hres : (some [.int (noteS (⟨d0, d1, d2, d3, d4, d5, d6, d7, d8, d9, d10, d11⟩ : Del))] : Option (List PV)) = RR
  simp only [t_notation_Check, e_notation_Check_notation_between, std, xOf, PXb, PXc, PXn, PXm, Nat.reduceAdd, Int.reduceBEq, L_notation_between]
  subst hres; simp only [noteS]
theorem L_r07_Check {N : Nat} {d0 d1 d2 d3 d4 d6 d7 d8 d9 d11 : Int} {d5 d10 : Bool}  : c_r07_Check N [.int d0, .int d1, .int d2, .int d3, .int d4, .bool d5, .int d6, .int d7, .int d8, .int d9, .bool d10, .int d11] = some [.int (noteS (⟨d0, d1, d2, d3, d4, d5, d6, d7, d8, d9, d10, d11⟩ : Del))] := by
  show t_r07_Check (std (env_r07_Check N) N) (xOf _) = _
  generalize hres : (some [.int (noteS (⟨d0, d1, d2, d3, d4, d5, d6, d7, d8, d9, d10, d11⟩ : Del))] : Option (List PV)) = RR
  simp only [t_r07_Check, e_r07_Check_r07_in, std, xOf, PXb, PXc, PXn, PXm, Nat.reduceAdd, Int.reduceBEq, L_r07_in]
  subst hres; simp only [noteS]
def loS (k : Int) : Int := cond (k == 7) 0 (cond (k == 13) 1 0)
def hiS (k : Int) : Int := cond (k == 7) 11 (cond (k == 13) 99 100000)
theorem L_event_bounds {N : Nat} {k : Int}  : c_event_bounds N [.int k] = some [.int (loS k), .int (hiS k)] := by
  show t_event_bounds (std (env_event_bounds N) N) (xOf _) = _
  simp only [t_event_bounds, std, xOf, PXb, PXc, PXn, PXm, Nat.reduceAdd, Int.reduceBEq]
  unfold loS hiS
  cases k == 7 <;> cases k == 13 <;> rfl
theorem L_r08_runs {N : Nat} {k : Int}  : c_r08_runs N [.int k] = some [.int (loS k), .int (hiS k)] := by
  show t_r08_runs (std (env_r08_runs N) N) (xOf _) = _
  simp only [t_r08_runs, std, xOf, PXb, PXc, PXn, PXm, Nat.reduceAdd, Int.reduceBEq]
  unfold loS hiS
  cases k == 7 <;> cases k == 13 <;> rfl
def uS (k : Int) : Bool := k == 1 || k == 12 || k == 14 || k == 11 || k == 13
def uP (k : Int) : Bool := k == 2 || k == 3 || k == 8 || k == 5 || k == 6 || k == 9
def uO (k : Int) : Bool := k == 2
def uY (k : Int) : Bool := k == 1 || k == 12 || k == 14 || k == 5 || k == 6 || k == 9
def uR (k : Int) : Bool := k == 7 || k == 13 || k == 15
def uV (k : Int) : Bool := k == 15
def uB (k : Int) : Bool := k == 4
theorem kinds16 {k : Int} (h : (iLt k 1 || iLt 16 k) = false) : k = 1 ∨ k = 2 ∨ k = 3 ∨ k = 4 ∨ k = 5 ∨ k = 6 ∨ k = 7 ∨ k = 8 ∨ k = 9 ∨ k = 10 ∨ k = 11 ∨ k = 12 ∨ k = 13 ∨ k = 14 ∨ k = 15 ∨ k = 16 := by
  simp only [iLt, Bool.or_eq_false_iff, decide_eq_false_iff_not] at h
  omega
theorem kinds_no {k : Int} (h : (iLt k 1 || iLt 16 k) = true) (n : Int) (h1 : 1 ≤ n) (h2 : n ≤ 16) : (k == n) = false := by
  simp only [iLt, Bool.or_eq_true, decide_eq_true_eq] at h
  exact beq_false_of_ne (by omega)
def formT : Rows := match c_event_forms 0 [] with
  | some [.rows l] => l
  | _ => []
theorem L_event_forms {N : Nat} : c_event_forms N [] = some [.rows formT] := rfl
def useG (k f : Int) : Bool := iLe 0 (Lib.indexByte (pvS (pvAt formT (IntKind.u8.wrap (k - 1)).toNat 1)).data.toList f.toNat.toUInt8) || (k == 5 && f == 121)
theorem L_strings_IndexByte {N : Nat} {s : ByteArray} {f : Int}  : c_strings_IndexByte N [.str s, .int f] = some [.int (Lib.indexByte s.data.toList f.toNat.toUInt8)] := by
  show t_strings_IndexByte (std (env_strings_IndexByte N) N) (xOf _) = _
  simp only [t_strings_IndexByte, e_strings_IndexByte_stringslite_IndexByte, std, xOf, PXb, PXc, PXn, PXm, Nat.reduceAdd, Int.reduceBEq, c_stringslite_IndexByte, indexC]
theorem L_event_uses {N : Nat} {k : Int} {f : Int} (h : (iLt k 1 || iLt 16 k) = false) : c_event_uses N [.int k, .int f] = some [.bool (useG k f)] := by
  show t_event_uses (std (env_event_uses N) N) (xOf _) = _
  have hi : iIn (IntKind.u8.wrap (k - 1)) (formT.length : Int) = true := by
    rcases kinds16 h with h | h | h | h | h | h | h | h | h | h | h | h | h | h | h | h <;> subst h <;> rfl
  simp only [t_event_uses, e_event_uses_strings_IndexByte, e_event_uses_event_forms, std, xOf, PXb, PXc, PXn, PXm, Nat.reduceAdd, Int.reduceBEq, L_event_forms, L_strings_IndexByte, hi, useG]
theorem use_ok {k : Int} (h : (iLt k 1 || iLt 16 k) = false) : useG k 115 = uS k ∧ useG k 112 = uP k ∧ useG k 111 = uO k ∧ useG k 121 = uY k ∧ useG k 114 = uR k ∧ useG k 118 = uV k ∧ useG k 98 = uB k := by
  rcases kinds16 h with h | h | h | h | h | h | h | h | h | h | h | h | h | h | h | h <;> subst h <;> exact ⟨rfl, rfl, rfl, rfl, rfl, rfl, rfl⟩
def zeroD (d : Del) : Bool := d.type == 0 && (d.source == 0 && (d.runs == 0 && (d.short == 0 && (d.boundary == 0 && (d.crossed == false && (d.how == 0 && (d.victim == 0 && (d.fielder == 0 && (d.second == 0 && (d.sub == false && d.sector == 0))))))))))
def err1 (e : Ev) : Bool := (!(e.side == 0) && !uS e.kind) || ((!(e.player == 0) && !uP e.kind) || ((!(e.other == 0) && !uO e.kind) || ((e.yes && !uY e.kind) || ((!(e.runs == 0) && !uR e.kind) || ((!(e.overs == 0) && !uV e.kind) || (!zeroD e.ball && !uB e.kind))))))
def err2 (e : Ev) : Bool := (!btw e.side 1 2 && uS e.kind) || ((!btw e.player 1 11 && uP e.kind) || ((!btw e.other 1 11 && uO e.kind) || ((!btw e.runs (loS e.kind) (hiS e.kind) && uR e.kind) || (!btw e.overs 0 90 && uV e.kind))))
def evS (e : Ev) : Int := cond (iLt e.kind 1 || iLt 16 e.kind) 3 (cond (err1 e) 1 (cond (err2 e) 2 (cond (e.kind == 4) (noteS e.ball) 0)))
def evT (e : Ev) : Rows := [[.int 115, .bool (e.side == 0), .bool (btw e.side 1 2)], [.int 112, .bool (e.player == 0), .bool (btw e.player 1 11)], [.int 111, .bool (e.other == 0), .bool (btw e.other 1 11)], [.int 121, .bool (!e.yes), .bool true], [.int 114, .bool (e.runs == 0), .bool (btw e.runs (loS e.kind) (hiS e.kind))], [.int 118, .bool (e.overs == 0), .bool (btw e.overs 0 90)], [.int 98, .bool (zeroD e.ball), .bool true]]
theorem L_event_Check {N : Nat} {e0 e1 e2 e3 e5 e6 e7 e8 e9 e10 e11 e13 e14 e15 e16 e18 : Int} {e4 e12 e17 : Bool} (hN : 2097152 < N) : c_event_Check N [.int e0, .int e1, .int e2, .int e3, .bool e4, .int e5, .int e6, .int e7, .int e8, .int e9, .int e10, .int e11, .bool e12, .int e13, .int e14, .int e15, .int e16, .bool e17, .int e18] = some [.int (evS (⟨e0, e1, e2, e3, e4, e5, e6, ⟨e7, e8, e9, e10, e11, e12, e13, e14, e15, e16, e17, e18⟩⟩ : Ev))] := by
  show t_event_Check (std (env_event_Check N) N) (xOf _) = _
  generalize hres : (some [.int (evS (⟨e0, e1, e2, e3, e4, e5, e6, ⟨e7, e8, e9, e10, e11, e12, e13, e14, e15, e16, e17, e18⟩⟩ : Ev))] : Option (List PV)) = RR
  cases hk : iLt e0 1 || iLt 16 e0 with
  | true =>
    simp only [t_event_Check, e_event_Check_event_bounds, e_event_Check_event_between, e_event_Check_event_uses, e_event_Check_notation_Check, std, xOf, PXb, PXc, bind_c, hk, ← hres, evS]
  | false =>
    simp only [t_event_Check, e_event_Check_event_bounds, e_event_Check_event_between, e_event_Check_event_uses, e_event_Check_notation_Check, std, xOf, PXb, PXc, bind_c, hk, L_event_bounds, L_event_between]
    subst hres
    obtain ⟨g1, g2, g3, g4, g5, g6, g7⟩ := use_ok hk
    refine bind_loop (iter_any (len := 7) (fun i => !pvB (pvAt (evT (⟨e0, e1, e2, e3, e4, e5, e6, ⟨e7, e8, e9, e10, e11, e12, e13, e14, e15, e16, e17, e18⟩⟩ : Ev)) i 1) && !useG e0 (pvI (pvAt (evT (⟨e0, e1, e2, e3, e4, e5, e6, ⟨e7, e8, e9, e10, e11, e12, e13, e14, e15, e16, e17, e18⟩⟩ : Ev)) i 0))) [.int 1] ?_ ?_ N (by omega)) ?_
    · intro self
      rfl
    · intro i self hi
      simp only [PXb, PXc, bind_c, wrap_nat (show i ≤ 1099511627776 by omega), List.length_cons, List.length_nil, Nat.reduceAdd, lt_len hi, in_range hi, L_event_uses hk]
      change cond (!pvB (pvAt (evT (⟨e0, e1, e2, e3, e4, e5, e6, ⟨e7, e8, e9, e10, e11, e12, e13, e14, e15, e16, e17, e18⟩⟩ : Ev)) i 1) && !(!pvB (pvAt (evT (⟨e0, e1, e2, e3, e4, e5, e6, ⟨e7, e8, e9, e10, e11, e12, e13, e14, e15, e16, e17, e18⟩⟩ : Ev)) i 1) && useG e0 (pvI (pvAt (evT (⟨e0, e1, e2, e3, e4, e5, e6, ⟨e7, e8, e9, e10, e11, e12, e13, e14, e15, e16, e17, e18⟩⟩ : Ev)) i 0)))) _ _ = _
      cases pvB (pvAt (evT (⟨e0, e1, e2, e3, e4, e5, e6, ⟨e7, e8, e9, e10, e11, e12, e13, e14, e15, e16, e17, e18⟩⟩ : Ev)) i 1) <;> rfl
    · have a1 : anyR (fun i => !pvB (pvAt (evT (⟨e0, e1, e2, e3, e4, e5, e6, ⟨e7, e8, e9, e10, e11, e12, e13, e14, e15, e16, e17, e18⟩⟩ : Ev)) i 1) && !useG e0 (pvI (pvAt (evT (⟨e0, e1, e2, e3, e4, e5, e6, ⟨e7, e8, e9, e10, e11, e12, e13, e14, e15, e16, e17, e18⟩⟩ : Ev)) i 0))) 7 0 = err1 (⟨e0, e1, e2, e3, e4, e5, e6, ⟨e7, e8, e9, e10, e11, e12, e13, e14, e15, e16, e17, e18⟩⟩ : Ev) := by
        simp only [anyR_succ, anyR_zero]
        change (!(e1 == 0) && !useG e0 115 || (!(e2 == 0) && !useG e0 112 || (!(e3 == 0) && !useG e0 111 || (!(!e4) && !useG e0 121 || (!(e5 == 0) && !useG e0 114 || (!(e6 == 0) && !useG e0 118 || (!(zeroD (⟨e0, e1, e2, e3, e4, e5, e6, ⟨e7, e8, e9, e10, e11, e12, e13, e14, e15, e16, e17, e18⟩⟩ : Ev).ball) && !useG e0 98 || false))))))) = _
        rw [g1, g2, g3, g4, g5, g6, g7, Bool.not_not, Bool.or_false]
        rfl
      rw [a1]
      simp only [evS, hk, cond_false]
      cases err1 (⟨e0, e1, e2, e3, e4, e5, e6, ⟨e7, e8, e9, e10, e11, e12, e13, e14, e15, e16, e17, e18⟩⟩ : Ev) with
      | true => rfl
      | false =>
        simp only [PXb, PXc, bind_c]
        refine bind_loop (iter_any (len := 7) (fun i => !pvB (pvAt (evT (⟨e0, e1, e2, e3, e4, e5, e6, ⟨e7, e8, e9, e10, e11, e12, e13, e14, e15, e16, e17, e18⟩⟩ : Ev)) i 2) && useG e0 (pvI (pvAt (evT (⟨e0, e1, e2, e3, e4, e5, e6, ⟨e7, e8, e9, e10, e11, e12, e13, e14, e15, e16, e17, e18⟩⟩ : Ev)) i 0))) [.int 2] ?_ ?_ N (by omega)) ?_
        · intro self
          rfl
        · intro i self hi
          simp only [PXb, PXc, bind_c, wrap_nat (show i ≤ 1099511627776 by omega), List.length_cons, List.length_nil, Nat.reduceAdd, lt_len hi, in_range hi, L_event_uses hk]
          rfl
        · have a2 : anyR (fun i => !pvB (pvAt (evT (⟨e0, e1, e2, e3, e4, e5, e6, ⟨e7, e8, e9, e10, e11, e12, e13, e14, e15, e16, e17, e18⟩⟩ : Ev)) i 2) && useG e0 (pvI (pvAt (evT (⟨e0, e1, e2, e3, e4, e5, e6, ⟨e7, e8, e9, e10, e11, e12, e13, e14, e15, e16, e17, e18⟩⟩ : Ev)) i 0))) 7 0 = err2 (⟨e0, e1, e2, e3, e4, e5, e6, ⟨e7, e8, e9, e10, e11, e12, e13, e14, e15, e16, e17, e18⟩⟩ : Ev) := by
            simp only [anyR_succ, anyR_zero]
            change (!(btw e1 1 2) && useG e0 115 || (!(btw e2 1 11) && useG e0 112 || (!(btw e3 1 11) && useG e0 111 || (!true && useG e0 121 || (!(btw e5 (loS e0) (hiS e0)) && useG e0 114 || (!(btw e6 0 90) && useG e0 118 || (!true && useG e0 98 || false))))))) = _
            rw [g1, g2, g3, g4, g5, g6, g7]
            simp only [Bool.not_true, Bool.false_and, Bool.false_or, Bool.or_false]
            rfl
          rw [a2]
          cases err2 (⟨e0, e1, e2, e3, e4, e5, e6, ⟨e7, e8, e9, e10, e11, e12, e13, e14, e15, e16, e17, e18⟩⟩ : Ev) with
          | true => rfl
          | false =>
            simp only [PXb, PXc, PXn, PXm, Nat.reduceAdd, Int.reduceBEq, e_event_Check_notation_Check, L_notation_Check]
theorem usesOf_ok {N : Nat} (k : Int) : c_r08_UsesOf N [.int k] = some [.bool (uS k), .bool (uP k), .bool (uO k), .bool (uY k), .bool (uR k), .bool (uV k), .bool (uB k), .bool (!(iLt k 1 || iLt 16 k))] := by
  cases hk : iLt k 1 || iLt 16 k with
  | false => rcases kinds16 hk with h | h | h | h | h | h | h | h | h | h | h | h | h | h | h | h <;> subst h <;> rfl
  | true =>
    have n := kinds_no hk
    show t_r08_UsesOf (std (env_r08_UsesOf N) N) (xOf _) = _
    unfold uS uP uO uY uR uV uB
    simp only [t_r08_UsesOf, std, xOf, PXb, PXc, PXn, PXm, Nat.reduceAdd, Int.reduceBEq, n 1 (by omega) (by omega), n 2 (by omega) (by omega), n 3 (by omega) (by omega), n 4 (by omega) (by omega), n 5 (by omega) (by omega), n 6 (by omega) (by omega), n 7 (by omega) (by omega), n 8 (by omega) (by omega), n 9 (by omega) (by omega), n 10 (by omega) (by omega), n 11 (by omega) (by omega), n 12 (by omega) (by omega), n 13 (by omega) (by omega), n 14 (by omega) (by omega), n 15 (by omega) (by omega), n 16 (by omega) (by omega)]
theorem c4 {c x x' y y' : Bool} {a b d z z' : Int} (h1 : x = x') (h2 : y = y') (h3 : z = z') : (some [PV.int (cond c a (cond x b (cond y d z)))] : Option (List PV)) = some [PV.int (cond c a (cond x' b (cond y' d z')))] := by subst h1; subst h2; subst h3; rfl
theorem L_r08_Check {N : Nat} {e0 e1 e2 e3 e5 e6 e7 e8 e9 e10 e11 e13 e14 e15 e16 e18 : Int} {e4 e12 e17 : Bool}  : c_r08_Check N [.int e0, .int e1, .int e2, .int e3, .bool e4, .int e5, .int e6, .int e7, .int e8, .int e9, .int e10, .int e11, .bool e12, .int e13, .int e14, .int e15, .int e16, .bool e17, .int e18] = some [.int (evS (⟨e0, e1, e2, e3, e4, e5, e6, ⟨e7, e8, e9, e10, e11, e12, e13, e14, e15, e16, e17, e18⟩⟩ : Ev))] := by
  show t_r08_Check (std (env_r08_Check N) N) (xOf _) = _
  generalize hres : (some [.int (evS (⟨e0, e1, e2, e3, e4, e5, e6, ⟨e7, e8, e9, e10, e11, e12, e13, e14, e15, e16, e17, e18⟩⟩ : Ev))] : Option (List PV)) = RR
  simp only [t_r08_Check, e_r08_Check_r08_UsesOf, e_r08_Check_r08_runs, e_r08_Check_r08_in, e_r08_Check_r07_Check, std, xOf, PXb, PXc, PXn, PXm, Nat.reduceAdd, Int.reduceBEq, usesOf_ok, L_r08_runs, L_r08_in, L_r07_Check]
  subst hres; simp only [evS, err1, err2, zeroD]
  refine c4 ?_ ?_ rfl
  · simp only [Bool.not_and, Bool.or_assoc, Bool.and_comm]
  · generalize uS e0 = a1
    generalize uP e0 = a2
    generalize uO e0 = a3
    generalize uR e0 = a4
    generalize uV e0 = a5
    generalize btw e1 1 2 = b1
    generalize btw e2 1 11 = b2
    generalize btw e3 1 11 = b3
    generalize btw e5 (loS e0) (hiS e0) = b4
    generalize btw e6 0 90 = b5
    cases a1 <;> cases b1 <;> cases a2 <;> cases b2 <;> try rfl
    all_goals (cases a3 <;> cases b3 <;> cases a4 <;> cases b4 <;> try rfl)
    all_goals (cases a5 <;> cases b5 <;> rfl)
end Go.Px
end

section
namespace Go.Px
set_option linter.unusedVariables false
set_option linter.unusedSimpArgs false
set_option maxRecDepth 100000

/-- Lists grow little. -/
structure Lens (s t : Inn) : Prop where
  bt : t.batters.length = s.batters.length
  bd : t.bowled.length = s.bowled.length
  sb : t.subs.length = s.subs.length
  bw : t.bowlers.length ≤ s.bowlers.length + 1
  bf : t.before.length ≤ s.before.length + s.bowlers.length + 1
theorem Lens.refl (s : Inn) : Lens s s := ⟨rfl, rfl, rfl, by omega, by omega⟩
theorem P_c {α : Type} {P : α → Prop} (b : Bool) (x y : α) (hx : P x) (hy : P y) : P (cond b x y) := by cases b <;> assumption
theorem ran_lens (s : Inn) (d : Del) : Lens s (ranS s d) := by
  have hb : ∀ (b : Bool), (cond b (setI s.batters s.striker 2) s.batters).length = s.batters.length := fun b => by cases b <;> simp [setI_len]
  have hc : ∀ (b : Bool), (cond b (setI s.batters s.other 2) s.batters).length = s.batters.length := fun b => by cases b <;> simp [setI_len]
  unfold ranS
  cases (!(d.runs.tmod 2 == 0) != d.crossed) <;> refine P_c _ _ _ ⟨hb _, rfl, rfl, ?_, ?_⟩ (P_c _ _ _ ⟨hc _, rfl, rfl, ?_, ?_⟩ ⟨rfl, rfl, rfl, ?_, ?_⟩) <;> simp <;> omega
theorem over_lens (r : Rul) (s : Inn) (c : Bool) : Lens s (overS r s c).1 := by
  have hl : (cond (hasI s.bowlers s.bowlers.length s.bowler) s.bowlers (s.bowlers ++ [[.int s.bowler]])).length ≤ s.bowlers.length + 1 := by
    cases hasI s.bowlers s.bowlers.length s.bowler <;> simp
  have hd : (cond c (setI s.bowled s.bowler (inc (atI s.bowled (ix s.bowler) 0))) s.bowled).length = s.bowled.length := by cases c <;> simp [setI_len]
  unfold overS
  refine P_c (P := fun x : Inn × Bool => Lens s x.1) _ _ _ (Lens.refl s) (P_c (P := fun x : Inn × Bool => Lens s x.1) _ _ _ ⟨rfl, hd, rfl, hl, by simp; omega⟩ ⟨rfl, hd, rfl, by simp, ?_⟩)
  simp only
  omega
def first4 (a b c d : Int) : Int := cond (!(a == 0)) a (cond (!(b == 0)) b (cond (!(c == 0)) c (cond (!(d == 0)) d 0)))
def refuseS (r : Rul) (s : Inn) (d : Del) : Int :=
  cond (shortR s.batters s.striker s.other) 6 (cond (s.bowler == 0) 7 (first4 (readyS r s) (legalS d) (possS d s.freehit) (namedS s d)))
theorem L_innings_refused {N : Nat} {r1 r2 r3 r4 r5 r6 r7 r9 r10 r11 r12 : Int} {r8 : Bool} {r0 : ByteArray} {r13 : Rows} {s0 s1 s2 s3 s4 s5 s6 s7 s8 s9 s10 s11 s12 s13 s15 s21 s22 s23 s25 s26 s27 : Int} {s18 s20 : Bool} {s14 s16 s17 s19 s24 : Rows} {d0 d1 d2 d3 d4 d6 d7 d8 d9 d11 : Int} {d5 d10 : Bool} (h : Fit s14 s16 s17 s19 s24) (hN : 2097152 < N) (h13 : r13.length ≤ 1048576) : c_innings_refused N [.str r0, .int r1, .int r2, .int r3, .int r4, .int r5, .int r6, .int r7, .bool r8, .int r9, .int r10, .int r11, .int r12, .rows r13, .int s0, .int s1, .int s2, .int s3, .int s4, .int s5, .int s6, .int s7, .int s8, .int s9, .int s10, .int s11, .int s12, .int s13, .rows s14, .int s15, .rows s16, .rows s17, .bool s18, .rows s19, .bool s20, .int s21, .int s22, .int s23, .rows s24, .int s25, .int s26, .int s27, .int d0, .int d1, .int d2, .int d3, .int d4, .bool d5, .int d6, .int d7, .int d8, .int d9, .bool d10, .int d11] = some [.int (refuseS (⟨r0, r1, r2, r3, r4, r5, r6, r7, r8, r9, r10, r11, r12, r13⟩ : Rul) (⟨s0, s1, s2, s3, s4, s5, s6, s7, s8, s9, s10, s11, s12, s13, s14, s15, s16, s17, s18, s19, s20, s21, s22, s23, s24, s25, s26, s27⟩ : Inn) (⟨d0, d1, d2, d3, d4, d5, d6, d7, d8, d9, d10, d11⟩ : Del))] := by
  show t_innings_refused (std (env_innings_refused N) N) (xOf _) = _
  generalize hres : (some [.int (refuseS (⟨r0, r1, r2, r3, r4, r5, r6, r7, r8, r9, r10, r11, r12, r13⟩ : Rul) (⟨s0, s1, s2, s3, s4, s5, s6, s7, s8, s9, s10, s11, s12, s13, s14, s15, s16, s17, s18, s19, s20, s21, s22, s23, s24, s25, s26, s27⟩ : Inn) (⟨d0, d1, d2, d3, d4, d5, d6, d7, d8, d9, d10, d11⟩ : Del))] : Option (List PV)) = RR
  simp only [t_innings_refused, e_innings_refused_crease_Vacant, e_innings_refused_delivery_Legal, e_innings_refused_field_Ready, e_innings_refused_dismissal_Possible, e_innings_refused_field_Named, std, xOf, PXb, L_crease_Vacant h.bt hN, L_field_Ready h hN h13, L_delivery_Legal, L_dismissal_Possible hN, L_field_Named h]
  subst hres; simp only [refuseS]
  cases shortR s14 s12 s13 <;> try rfl
  cases s15 == 0 <;> try rfl
  simp only [PXb]
  generalize readyS (⟨r0, r1, r2, r3, r4, r5, r6, r7, r8, r9, r10, r11, r12, r13⟩ : Rul) (⟨s0, s1, s2, s3, s4, s5, s6, s7, s8, s9, s10, s11, s12, s13, s14, s15, s16, s17, s18, s19, s20, s21, s22, s23, s24, s25, s26, s27⟩ : Inn) = a
  generalize legalS (⟨d0, d1, d2, d3, d4, d5, d6, d7, d8, d9, d10, d11⟩ : Del) = b
  generalize possS (⟨d0, d1, d2, d3, d4, d5, d6, d7, d8, d9, d10, d11⟩ : Del) s20 = c
  generalize namedS (⟨s0, s1, s2, s3, s4, s5, s6, s7, s8, s9, s10, s11, s12, s13, s14, s15, s16, s17, s18, s19, s20, s21, s22, s23, s24, s25, s26, s27⟩ : Inn) (⟨d0, d1, d2, d3, d4, d5, d6, d7, d8, d9, d10, d11⟩ : Del) = e
  refine bind_loop (iter_find (len := 4) (fun i => cond (!(atI [[.int a], [.int b], [.int c], [.int e]] i 0 == 0)) (some [.int (atI [[.int a], [.int b], [.int c], [.int e]] i 0)]) none) ?_ ?_ 4 0 N (by omega) (by omega)) ?_
  · intro self
    rfl
  · intro i self hi
    simp only [PXb, wrap_nat (show i ≤ 1099511627776 by omega), List.length_cons, List.length_nil, Nat.reduceAdd, lt_len hi, in_range hi, atI_def]
    cases atI [[.int a], [.int b], [.int c], [.int e]] i 0 == 0 <;> rfl
  · refine (found_code _).trans (congrArg (fun z => some [PV.int z]) ?_)
    unfold first4
    simp only [findR]
    rw [show atI [[.int a], [.int b], [.int c], [.int e]] 0 0 = a from rfl, show atI [[.int a], [.int b], [.int c], [.int e]] (0 + 1) 0 = b from rfl, show atI [[.int a], [.int b], [.int c], [.int e]] (0 + 1 + 1) 0 = c from rfl, show atI [[.int a], [.int b], [.int c], [.int e]] (0 + 1 + 1 + 1) 0 = e from rfl]
    cases a == 0 <;> try rfl
    cases b == 0 <;> try rfl
    cases c == 0 <;> try rfl
    cases e == 0 <;> rfl
theorem fit_of {s t : Inn} (l : Lens s t) (h : s.Fit) (hw : s.before.length + s.bowlers.length ≤ 1048575) : t.Fit := ⟨l.bt ▸ h.bt, by have := l.bw; omega, by have := l.bf; omega, l.bd ▸ h.bd, l.sb ▸ h.sb⟩
theorem ran_bw (s : Inn) (d : Del) : (ranS s d).bowlers = s.bowlers := by
  unfold ranS
  cases (!(d.runs.tmod 2 == 0) != d.crossed) <;> exact P_c (P := fun x : Inn => x.bowlers = s.bowlers) _ _ _ rfl (P_c (P := fun x : Inn => x.bowlers = s.bowlers) _ _ _ rfl rfl)
theorem ran_bf (s : Inn) (d : Del) : (ranS s d).before = s.before := by
  unfold ranS
  cases (!(d.runs.tmod 2 == 0) != d.crossed) <;> exact P_c (P := fun x : Inn => x.before = s.before) _ _ _ rfl (P_c (P := fun x : Inn => x.before = s.before) _ _ _ rfl rfl)
@[reducible] def addS (t : Inn) (a b e f g : Int) : Inn := ⟨t.side, t.target, t.overs, a, t.wickets, b, e, f, g, t.pens, t.complete, t.inover, t.striker, t.other, t.batters, t.bowler, t.bowlers, t.before, t.fresh, t.bowled, t.freehit, t.ballage, t.keeper, t.outside, t.subs, t.rev1, t.rev2, t.ending⟩
def ballS (r : Rul) (s : Inn) (d : Del) : Inn × Int :=
  cond (!(refuseS r s d == 0)) (s, refuseS r s d)
    (let c := creditS r d
     let t := ranS s d
     let o := overS r (addS t (IntKind.i64.wrap (t.runs + totalS c)) (IntKind.i64.wrap (t.wides + c.wides)) (IntKind.i64.wrap (t.noballs + c.noballs)) (IntKind.i64.wrap (t.byes + c.byes)) (IntKind.i64.wrap (t.legbyes + c.legbyes))) c.counts
     let t : Inn := cond o.2 (changeS o.1) o.1
     ({ t with freehit := cond (d.type == 1) false (cond (d.type == 3 && r.freehit) true o.1.freehit) }, 0))
theorem L_innings_ball {N : Nat} {r1 r2 r3 r4 r5 r6 r7 r9 r10 r11 r12 : Int} {r8 : Bool} {r0 : ByteArray} {r13 : Rows} {s0 s1 s2 s3 s4 s5 s6 s7 s8 s9 s10 s11 s12 s13 s15 s21 s22 s23 s25 s26 s27 : Int} {s18 s20 : Bool} {s14 s16 s17 s19 s24 : Rows} {d0 d1 d2 d3 d4 d6 d7 d8 d9 d11 : Int} {d5 d10 : Bool} (h : Fit s14 s16 s17 s19 s24) (hw : s17.length + s16.length ≤ 1000000) (hN : 2097152 < N) (hs : r0.size ≤ 1048576) (h13 : r13.length ≤ 1048576) : c_innings_ball N [.str r0, .int r1, .int r2, .int r3, .int r4, .int r5, .int r6, .int r7, .bool r8, .int r9, .int r10, .int r11, .int r12, .rows r13, .int s0, .int s1, .int s2, .int s3, .int s4, .int s5, .int s6, .int s7, .int s8, .int s9, .int s10, .int s11, .int s12, .int s13, .rows s14, .int s15, .rows s16, .rows s17, .bool s18, .rows s19, .bool s20, .int s21, .int s22, .int s23, .rows s24, .int s25, .int s26, .int s27, .int d0, .int d1, .int d2, .int d3, .int d4, .bool d5, .int d6, .int d7, .int d8, .int d9, .bool d10, .int d11] = some (lawLs (ballS (⟨r0, r1, r2, r3, r4, r5, r6, r7, r8, r9, r10, r11, r12, r13⟩ : Rul) (⟨s0, s1, s2, s3, s4, s5, s6, s7, s8, s9, s10, s11, s12, s13, s14, s15, s16, s17, s18, s19, s20, s21, s22, s23, s24, s25, s26, s27⟩ : Inn) (⟨d0, d1, d2, d3, d4, d5, d6, d7, d8, d9, d10, d11⟩ : Del))) := by
  show t_innings_ball (std (env_innings_ball N) N) (xOf _) = _
  generalize hres : (some (lawLs (ballS (⟨r0, r1, r2, r3, r4, r5, r6, r7, r8, r9, r10, r11, r12, r13⟩ : Rul) (⟨s0, s1, s2, s3, s4, s5, s6, s7, s8, s9, s10, s11, s12, s13, s14, s15, s16, s17, s18, s19, s20, s21, s22, s23, s24, s25, s26, s27⟩ : Inn) (⟨d0, d1, d2, d3, d4, d5, d6, d7, d8, d9, d10, d11⟩ : Del))) : Option (List PV)) = RR
  have l1 := ran_lens (⟨s0, s1, s2, s3, s4, s5, s6, s7, s8, s9, s10, s11, s12, s13, s14, s15, s16, s17, s18, s19, s20, s21, s22, s23, s24, s25, s26, s27⟩ : Inn) (⟨d0, d1, d2, d3, d4, d5, d6, d7, d8, d9, d10, d11⟩ : Del)
  have f1 := fit_of l1 h (by simp only; omega)
  have w1 : (ranS (⟨s0, s1, s2, s3, s4, s5, s6, s7, s8, s9, s10, s11, s12, s13, s14, s15, s16, s17, s18, s19, s20, s21, s22, s23, s24, s25, s26, s27⟩ : Inn) (⟨d0, d1, d2, d3, d4, d5, d6, d7, d8, d9, d10, d11⟩ : Del)).bowlers.length = s16.length := congrArg List.length (ran_bw _ _)
  have w2 : (ranS (⟨s0, s1, s2, s3, s4, s5, s6, s7, s8, s9, s10, s11, s12, s13, s14, s15, s16, s17, s18, s19, s20, s21, s22, s23, s24, s25, s26, s27⟩ : Inn) (⟨d0, d1, d2, d3, d4, d5, d6, d7, d8, d9, d10, d11⟩ : Del)).before.length = s17.length := congrArg List.length (ran_bf _ _)
  have l2 := fun (x : Rul) (c : Bool) (a b e f g : Int) => over_lens x (addS (ranS (⟨s0, s1, s2, s3, s4, s5, s6, s7, s8, s9, s10, s11, s12, s13, s14, s15, s16, s17, s18, s19, s20, s21, s22, s23, s24, s25, s26, s27⟩ : Inn) (⟨d0, d1, d2, d3, d4, d5, d6, d7, d8, d9, d10, d11⟩ : Del)) a b e f g) c
  have f2 := fun (x : Rul) (c : Bool) (a b e f g : Int) => fit_of (l2 x c a b e f g) f1 (show (ranS (⟨s0, s1, s2, s3, s4, s5, s6, s7, s8, s9, s10, s11, s12, s13, s14, s15, s16, s17, s18, s19, s20, s21, s22, s23, s24, s25, s26, s27⟩ : Inn) (⟨d0, d1, d2, d3, d4, d5, d6, d7, d8, d9, d10, d11⟩ : Del)).before.length + (ranS (⟨s0, s1, s2, s3, s4, s5, s6, s7, s8, s9, s10, s11, s12, s13, s14, s15, s16, s17, s18, s19, s20, s21, s22, s23, s24, s25, s26, s27⟩ : Inn) (⟨d0, d1, d2, d3, d4, d5, d6, d7, d8, d9, d10, d11⟩ : Del)).bowlers.length ≤ 1048575 by omega)
  simp only [t_innings_ball, e_innings_ball_innings_Clone, e_innings_ball_delivery_Total, e_innings_ball_delivery_Credit, e_innings_ball_innings_refused, e_innings_ball_crease_Ran, e_innings_ball_spell_Ball, e_innings_ball_crease_Change, std, xOf, PXb, PXc, PXn, PXm, Nat.reduceAdd, Int.reduceBEq, L_innings_refused h hN h13, L_innings_Clone h, L_delivery_Credit, L_crease_Ran h, L_delivery_Total, Cre.ls, L_spell_Ball f1 (show (ranS (⟨s0, s1, s2, s3, s4, s5, s6, s7, s8, s9, s10, s11, s12, s13, s14, s15, s16, s17, s18, s19, s20, s21, s22, s23, s24, s25, s26, s27⟩ : Inn) (⟨d0, d1, d2, d3, d4, d5, d6, d7, d8, d9, d10, d11⟩ : Del)).bowlers.length ≤ 1048575 by omega) hN hs, ynLs, L_crease_Change (f2 _ _ _ _ _ _ _)]
  subst hres; simp only [ballS, addS]
  cases refuseS (⟨r0, r1, r2, r3, r4, r5, r6, r7, r8, r9, r10, r11, r12, r13⟩ : Rul) (⟨s0, s1, s2, s3, s4, s5, s6, s7, s8, s9, s10, s11, s12, s13, s14, s15, s16, s17, s18, s19, s20, s21, s22, s23, s24, s25, s26, s27⟩ : Inn) (⟨d0, d1, d2, d3, d4, d5, d6, d7, d8, d9, d10, d11⟩ : Del) == 0 with
  | false => rfl
  | true =>
    obtain ⟨o, ho⟩ : ∃ o, o = overS (⟨r0, r1, r2, r3, r4, r5, r6, r7, r8, r9, r10, r11, r12, r13⟩ : Rul) (addS (ranS (⟨s0, s1, s2, s3, s4, s5, s6, s7, s8, s9, s10, s11, s12, s13, s14, s15, s16, s17, s18, s19, s20, s21, s22, s23, s24, s25, s26, s27⟩ : Inn) (⟨d0, d1, d2, d3, d4, d5, d6, d7, d8, d9, d10, d11⟩ : Del)) (IntKind.i64.wrap ((ranS (⟨s0, s1, s2, s3, s4, s5, s6, s7, s8, s9, s10, s11, s12, s13, s14, s15, s16, s17, s18, s19, s20, s21, s22, s23, s24, s25, s26, s27⟩ : Inn) (⟨d0, d1, d2, d3, d4, d5, d6, d7, d8, d9, d10, d11⟩ : Del)).runs + totalS (creditS (⟨r0, r1, r2, r3, r4, r5, r6, r7, r8, r9, r10, r11, r12, r13⟩ : Rul) (⟨d0, d1, d2, d3, d4, d5, d6, d7, d8, d9, d10, d11⟩ : Del)))) (IntKind.i64.wrap ((ranS (⟨s0, s1, s2, s3, s4, s5, s6, s7, s8, s9, s10, s11, s12, s13, s14, s15, s16, s17, s18, s19, s20, s21, s22, s23, s24, s25, s26, s27⟩ : Inn) (⟨d0, d1, d2, d3, d4, d5, d6, d7, d8, d9, d10, d11⟩ : Del)).wides + (creditS (⟨r0, r1, r2, r3, r4, r5, r6, r7, r8, r9, r10, r11, r12, r13⟩ : Rul) (⟨d0, d1, d2, d3, d4, d5, d6, d7, d8, d9, d10, d11⟩ : Del)).wides)) (IntKind.i64.wrap ((ranS (⟨s0, s1, s2, s3, s4, s5, s6, s7, s8, s9, s10, s11, s12, s13, s14, s15, s16, s17, s18, s19, s20, s21, s22, s23, s24, s25, s26, s27⟩ : Inn) (⟨d0, d1, d2, d3, d4, d5, d6, d7, d8, d9, d10, d11⟩ : Del)).noballs + (creditS (⟨r0, r1, r2, r3, r4, r5, r6, r7, r8, r9, r10, r11, r12, r13⟩ : Rul) (⟨d0, d1, d2, d3, d4, d5, d6, d7, d8, d9, d10, d11⟩ : Del)).noballs)) (IntKind.i64.wrap ((ranS (⟨s0, s1, s2, s3, s4, s5, s6, s7, s8, s9, s10, s11, s12, s13, s14, s15, s16, s17, s18, s19, s20, s21, s22, s23, s24, s25, s26, s27⟩ : Inn) (⟨d0, d1, d2, d3, d4, d5, d6, d7, d8, d9, d10, d11⟩ : Del)).byes + (creditS (⟨r0, r1, r2, r3, r4, r5, r6, r7, r8, r9, r10, r11, r12, r13⟩ : Rul) (⟨d0, d1, d2, d3, d4, d5, d6, d7, d8, d9, d10, d11⟩ : Del)).byes)) (IntKind.i64.wrap ((ranS (⟨s0, s1, s2, s3, s4, s5, s6, s7, s8, s9, s10, s11, s12, s13, s14, s15, s16, s17, s18, s19, s20, s21, s22, s23, s24, s25, s26, s27⟩ : Inn) (⟨d0, d1, d2, d3, d4, d5, d6, d7, d8, d9, d10, d11⟩ : Del)).legbyes + (creditS (⟨r0, r1, r2, r3, r4, r5, r6, r7, r8, r9, r10, r11, r12, r13⟩ : Rul) (⟨d0, d1, d2, d3, d4, d5, d6, d7, d8, d9, d10, d11⟩ : Del)).legbyes))) (creditS (⟨r0, r1, r2, r3, r4, r5, r6, r7, r8, r9, r10, r11, r12, r13⟩ : Rul) (⟨d0, d1, d2, d3, d4, d5, d6, d7, d8, d9, d10, d11⟩ : Del)).counts := ⟨_, rfl⟩
    simp only [addS, totalS] at ho ⊢
    simp only [← ho]
    obtain ⟨o1, o2⟩ := o
    cases o2 <;> cases d0 == 1 <;> cases d0 == 3 <;> cases r8 <;> rfl
theorem over_add (r : Rul) (s : Inn) (b : Bool) (a c d e f : Int) : overS r (addS s a c d e f) b = (addS (overS r s b).1 a c d e f, (overS r s b).2) := by
  unfold overS addS
  simp only
  cases (!inR s.bowler s.bowled.length || !(codeS r == 0)) with
  | true => rfl
  | false =>
    simp only [cond_false]
    cases iLt (cond b (inc s.inover) s.inover) r.balls <;> rfl
theorem over_keep (r : Rul) (s : Inn) (b : Bool) : (overS r s b).1.runs = s.runs ∧ (overS r s b).1.wides = s.wides ∧ (overS r s b).1.noballs = s.noballs ∧ (overS r s b).1.byes = s.byes ∧ (overS r s b).1.legbyes = s.legbyes := by
  unfold overS
  exact P_c (P := fun x : Inn × Bool => x.1.runs = s.runs ∧ x.1.wides = s.wides ∧ x.1.noballs = s.noballs ∧ x.1.byes = s.byes ∧ x.1.legbyes = s.legbyes) _ _ _ ⟨rfl, rfl, rfl, rfl, rfl⟩
    (P_c (P := fun x : Inn × Bool => x.1.runs = s.runs ∧ x.1.wides = s.wides ∧ x.1.noballs = s.noballs ∧ x.1.byes = s.byes ∧ x.1.legbyes = s.legbyes) _ _ _ ⟨rfl, rfl, rfl, rfl, rfl⟩ ⟨rfl, rfl, rfl, rfl, rfl⟩)
theorem L_r14_ball {N : Nat} {r1 r2 r3 r4 r5 r6 r7 r9 r10 r11 r12 : Int} {r8 : Bool} {r0 : ByteArray} {r13 : Rows} {s0 s1 s2 s3 s4 s5 s6 s7 s8 s9 s10 s11 s12 s13 s15 s21 s22 s23 s25 s26 s27 : Int} {s18 s20 : Bool} {s14 s16 s17 s19 s24 : Rows} {d0 d1 d2 d3 d4 d6 d7 d8 d9 d11 : Int} {d5 d10 : Bool} (h : Fit s14 s16 s17 s19 s24) (hw : s17.length + s16.length ≤ 1000000) (hN : 2097152 < N) (hs : r0.size ≤ 1048576) (h13 : r13.length ≤ 1048576) : c_r14_ball N [.str r0, .int r1, .int r2, .int r3, .int r4, .int r5, .int r6, .int r7, .bool r8, .int r9, .int r10, .int r11, .int r12, .rows r13, .int s0, .int s1, .int s2, .int s3, .int s4, .int s5, .int s6, .int s7, .int s8, .int s9, .int s10, .int s11, .int s12, .int s13, .rows s14, .int s15, .rows s16, .rows s17, .bool s18, .rows s19, .bool s20, .int s21, .int s22, .int s23, .rows s24, .int s25, .int s26, .int s27, .int d0, .int d1, .int d2, .int d3, .int d4, .bool d5, .int d6, .int d7, .int d8, .int d9, .bool d10, .int d11] = some (lawLs (ballS (⟨r0, r1, r2, r3, r4, r5, r6, r7, r8, r9, r10, r11, r12, r13⟩ : Rul) (⟨s0, s1, s2, s3, s4, s5, s6, s7, s8, s9, s10, s11, s12, s13, s14, s15, s16, s17, s18, s19, s20, s21, s22, s23, s24, s25, s26, s27⟩ : Inn) (⟨d0, d1, d2, d3, d4, d5, d6, d7, d8, d9, d10, d11⟩ : Del))) := by
  show t_r14_ball (std (env_r14_ball N) N) (xOf _) = _
  generalize hres : (some (lawLs (ballS (⟨r0, r1, r2, r3, r4, r5, r6, r7, r8, r9, r10, r11, r12, r13⟩ : Rul) (⟨s0, s1, s2, s3, s4, s5, s6, s7, s8, s9, s10, s11, s12, s13, s14, s15, s16, s17, s18, s19, s20, s21, s22, s23, s24, s25, s26, s27⟩ : Inn) (⟨d0, d1, d2, d3, d4, d5, d6, d7, d8, d9, d10, d11⟩ : Del))) : Option (List PV)) = RR
  have l1 := ran_lens (⟨s0, s1, s2, s3, s4, s5, s6, s7, s8, s9, s10, s11, s12, s13, s14, s15, s16, s17, s18, s19, s20, s21, s22, s23, s24, s25, s26, s27⟩ : Inn) (⟨d0, d1, d2, d3, d4, d5, d6, d7, d8, d9, d10, d11⟩ : Del)
  have f1 := fit_of l1 h (by simp only; omega)
  have w1 : (ranS (⟨s0, s1, s2, s3, s4, s5, s6, s7, s8, s9, s10, s11, s12, s13, s14, s15, s16, s17, s18, s19, s20, s21, s22, s23, s24, s25, s26, s27⟩ : Inn) (⟨d0, d1, d2, d3, d4, d5, d6, d7, d8, d9, d10, d11⟩ : Del)).bowlers.length = s16.length := congrArg List.length (ran_bw _ _)
  have w2 : (ranS (⟨s0, s1, s2, s3, s4, s5, s6, s7, s8, s9, s10, s11, s12, s13, s14, s15, s16, s17, s18, s19, s20, s21, s22, s23, s24, s25, s26, s27⟩ : Inn) (⟨d0, d1, d2, d3, d4, d5, d6, d7, d8, d9, d10, d11⟩ : Del)).before.length = s17.length := congrArg List.length (ran_bf _ _)
  have l2 := fun (x : Rul) (c : Bool) => over_lens x (ranS (⟨s0, s1, s2, s3, s4, s5, s6, s7, s8, s9, s10, s11, s12, s13, s14, s15, s16, s17, s18, s19, s20, s21, s22, s23, s24, s25, s26, s27⟩ : Inn) (⟨d0, d1, d2, d3, d4, d5, d6, d7, d8, d9, d10, d11⟩ : Del)) c
  have f2 := fun (x : Rul) (c : Bool) => fit_of (l2 x c) f1 (show (ranS (⟨s0, s1, s2, s3, s4, s5, s6, s7, s8, s9, s10, s11, s12, s13, s14, s15, s16, s17, s18, s19, s20, s21, s22, s23, s24, s25, s26, s27⟩ : Inn) (⟨d0, d1, d2, d3, d4, d5, d6, d7, d8, d9, d10, d11⟩ : Del)).before.length + (ranS (⟨s0, s1, s2, s3, s4, s5, s6, s7, s8, s9, s10, s11, s12, s13, s14, s15, s16, s17, s18, s19, s20, s21, s22, s23, s24, s25, s26, s27⟩ : Inn) (⟨d0, d1, d2, d3, d4, d5, d6, d7, d8, d9, d10, d11⟩ : Del)).bowlers.length ≤ 1048575 by omega)
  simp only [t_r14_ball, e_r14_ball_r12_Vacant, e_r14_ball_r09_Credit, e_r14_ball_r09_Legal, e_r14_ball_r11_Ready, e_r14_ball_r10_Possible, e_r14_ball_r11_Named, e_r14_ball_r12_Ran, e_r14_ball_r13_Ball, e_r14_ball_r12_Change, e_r14_ball_r09_Total, std, xOf, PXb, PXc, PXn, PXm, Nat.reduceAdd, Int.reduceBEq, L_r12_Vacant h.bt hN, L_r11_Ready h hN h13, L_r09_Legal, L_r10_Possible, L_r11_Named h, L_r09_Credit, L_r12_Ran h, L_r09_Total, Cre.ls, L_r13_Ball f1 (show (ranS (⟨s0, s1, s2, s3, s4, s5, s6, s7, s8, s9, s10, s11, s12, s13, s14, s15, s16, s17, s18, s19, s20, s21, s22, s23, s24, s25, s26, s27⟩ : Inn) (⟨d0, d1, d2, d3, d4, d5, d6, d7, d8, d9, d10, d11⟩ : Del)).bowlers.length ≤ 1048575 by omega) hN hs, ynLs, L_r12_Change (f2 _ _)]
  subst hres; simp only [ballS, refuseS, first4, over_add]
  cases shortR s14 s12 s13 <;> try rfl
  cases s15 == 0 <;> try rfl
  cases h1 : readyS (⟨r0, r1, r2, r3, r4, r5, r6, r7, r8, r9, r10, r11, r12, r13⟩ : Rul) (⟨s0, s1, s2, s3, s4, s5, s6, s7, s8, s9, s10, s11, s12, s13, s14, s15, s16, s17, s18, s19, s20, s21, s22, s23, s24, s25, s26, s27⟩ : Inn) == 0 <;> (try (simp only [h1, PXb, PXc, PXn, PXm, Nat.reduceAdd, Int.reduceBEq]; done))
  cases h2 : legalS (⟨d0, d1, d2, d3, d4, d5, d6, d7, d8, d9, d10, d11⟩ : Del) == 0 <;> (try (simp only [h2, PXb, PXc, PXn, PXm, Nat.reduceAdd, Int.reduceBEq]; done))
  cases h3 : possS (⟨d0, d1, d2, d3, d4, d5, d6, d7, d8, d9, d10, d11⟩ : Del) s20 == 0 <;> (try (simp only [h3, PXb, PXc, PXn, PXm, Nat.reduceAdd, Int.reduceBEq]; done))
  cases h4 : namedS (⟨s0, s1, s2, s3, s4, s5, s6, s7, s8, s9, s10, s11, s12, s13, s14, s15, s16, s17, s18, s19, s20, s21, s22, s23, s24, s25, s26, s27⟩ : Inn) (⟨d0, d1, d2, d3, d4, d5, d6, d7, d8, d9, d10, d11⟩ : Del) == 0 <;> (try (simp only [h4, PXb, PXc, PXn, PXm, Nat.reduceAdd, Int.reduceBEq]; done))
  have k := over_keep (⟨r0, r1, r2, r3, r4, r5, r6, r7, r8, r9, r10, r11, r12, r13⟩ : Rul) (ranS (⟨s0, s1, s2, s3, s4, s5, s6, s7, s8, s9, s10, s11, s12, s13, s14, s15, s16, s17, s18, s19, s20, s21, s22, s23, s24, s25, s26, s27⟩ : Inn) (⟨d0, d1, d2, d3, d4, d5, d6, d7, d8, d9, d10, d11⟩ : Del)) (creditS (⟨r0, r1, r2, r3, r4, r5, r6, r7, r8, r9, r10, r11, r12, r13⟩ : Rul) (⟨d0, d1, d2, d3, d4, d5, d6, d7, d8, d9, d10, d11⟩ : Del)).counts
  obtain ⟨o, ho⟩ : ∃ o, o = overS (⟨r0, r1, r2, r3, r4, r5, r6, r7, r8, r9, r10, r11, r12, r13⟩ : Rul) (ranS (⟨s0, s1, s2, s3, s4, s5, s6, s7, s8, s9, s10, s11, s12, s13, s14, s15, s16, s17, s18, s19, s20, s21, s22, s23, s24, s25, s26, s27⟩ : Inn) (⟨d0, d1, d2, d3, d4, d5, d6, d7, d8, d9, d10, d11⟩ : Del)) (creditS (⟨r0, r1, r2, r3, r4, r5, r6, r7, r8, r9, r10, r11, r12, r13⟩ : Rul) (⟨d0, d1, d2, d3, d4, d5, d6, d7, d8, d9, d10, d11⟩ : Del)).counts := ⟨_, rfl⟩
  simp only [← ho, addS, totalS] at k ⊢
  obtain ⟨o1, o2⟩ := o
  obtain ⟨k1, k2, k3, k4, k5⟩ := k
  simp only at k1 k2 k3 k4 k5
  simp only [← k1, ← k2, ← k3, ← k4, ← k5]
  cases o2 <;> cases d0 == 1 <;> cases d0 == 3 <;> cases r8 <;> rfl
def declareS (r : Rul) (s : Inn) (side : Int) : Inn × Int := cond (!(side == s.side)) (s, 2) (cond (!(r.overs == 0)) (s, 20) ({ s with ending := 4 }, 0))
theorem L_innings_declare {N : Nat} {r1 r2 r3 r4 r5 r6 r7 r9 r10 r11 r12 : Int} {r8 : Bool} {r0 : ByteArray} {r13 : Rows} {s0 s1 s2 s3 s4 s5 s6 s7 s8 s9 s10 s11 s12 s13 s15 s21 s22 s23 s25 s26 s27 : Int} {s18 s20 : Bool} {s14 s16 s17 s19 s24 : Rows} {e0 e1 e2 e3 e5 e6 e7 e8 e9 e10 e11 e13 e14 e15 e16 e18 : Int} {e4 e12 e17 : Bool} (h : Fit s14 s16 s17 s19 s24) : c_innings_declare N [.str r0, .int r1, .int r2, .int r3, .int r4, .int r5, .int r6, .int r7, .bool r8, .int r9, .int r10, .int r11, .int r12, .rows r13, .int s0, .int s1, .int s2, .int s3, .int s4, .int s5, .int s6, .int s7, .int s8, .int s9, .int s10, .int s11, .int s12, .int s13, .rows s14, .int s15, .rows s16, .rows s17, .bool s18, .rows s19, .bool s20, .int s21, .int s22, .int s23, .rows s24, .int s25, .int s26, .int s27, .int e0, .int e1, .int e2, .int e3, .bool e4, .int e5, .int e6, .int e7, .int e8, .int e9, .int e10, .int e11, .bool e12, .int e13, .int e14, .int e15, .int e16, .bool e17, .int e18] = some (lawLs (declareS (⟨r0, r1, r2, r3, r4, r5, r6, r7, r8, r9, r10, r11, r12, r13⟩ : Rul) (⟨s0, s1, s2, s3, s4, s5, s6, s7, s8, s9, s10, s11, s12, s13, s14, s15, s16, s17, s18, s19, s20, s21, s22, s23, s24, s25, s26, s27⟩ : Inn) e1)) := by
  show t_innings_declare (std (env_innings_declare N) N) (xOf _) = _
  generalize hres : (some (lawLs (declareS (⟨r0, r1, r2, r3, r4, r5, r6, r7, r8, r9, r10, r11, r12, r13⟩ : Rul) (⟨s0, s1, s2, s3, s4, s5, s6, s7, s8, s9, s10, s11, s12, s13, s14, s15, s16, s17, s18, s19, s20, s21, s22, s23, s24, s25, s26, s27⟩ : Inn) e1)) : Option (List PV)) = RR
  simp only [t_innings_declare, e_innings_declare_innings_Clone, std, xOf, PXb, PXc, PXn, PXm, Nat.reduceAdd, Int.reduceBEq, L_innings_Clone h]
  subst hres; simp only [declareS]
  cases e1 == s0 <;> cases r3 == 0 <;> rfl
def penS (s : Inn) : Inn := { s with runs := IntKind.i64.wrap (s.runs + 5), pens := IntKind.i64.wrap (s.pens + 5) }
theorem L_innings_Penalty {N : Nat} {s0 s1 s2 s3 s4 s5 s6 s7 s8 s9 s10 s11 s12 s13 s15 s21 s22 s23 s25 s26 s27 : Int} {s18 s20 : Bool} {s14 s16 s17 s19 s24 : Rows} (h : Fit s14 s16 s17 s19 s24) : c_innings_Penalty N [.int s0, .int s1, .int s2, .int s3, .int s4, .int s5, .int s6, .int s7, .int s8, .int s9, .int s10, .int s11, .int s12, .int s13, .rows s14, .int s15, .rows s16, .rows s17, .bool s18, .rows s19, .bool s20, .int s21, .int s22, .int s23, .rows s24, .int s25, .int s26, .int s27] = some (penS (⟨s0, s1, s2, s3, s4, s5, s6, s7, s8, s9, s10, s11, s12, s13, s14, s15, s16, s17, s18, s19, s20, s21, s22, s23, s24, s25, s26, s27⟩ : Inn)).ls := by
  show t_innings_Penalty (std (env_innings_Penalty N) N) (xOf _) = _
  generalize hres : (some (penS (⟨s0, s1, s2, s3, s4, s5, s6, s7, s8, s9, s10, s11, s12, s13, s14, s15, s16, s17, s18, s19, s20, s21, s22, s23, s24, s25, s26, s27⟩ : Inn)).ls : Option (List PV)) = RR
  simp only [t_innings_Penalty, e_innings_Penalty_innings_Clone, std, xOf, PXb, PXc, PXn, PXm, Nat.reduceAdd, Int.reduceBEq, L_innings_Clone h]
  subst hres; simp only [penS]
  rfl
theorem L_r14_Penalty {N : Nat} {s0 s1 s2 s3 s4 s5 s6 s7 s8 s9 s10 s11 s12 s13 s15 s21 s22 s23 s25 s26 s27 : Int} {s18 s20 : Bool} {s14 s16 s17 s19 s24 : Rows} (h : Fit s14 s16 s17 s19 s24) : c_r14_Penalty N [.int s0, .int s1, .int s2, .int s3, .int s4, .int s5, .int s6, .int s7, .int s8, .int s9, .int s10, .int s11, .int s12, .int s13, .rows s14, .int s15, .rows s16, .rows s17, .bool s18, .rows s19, .bool s20, .int s21, .int s22, .int s23, .rows s24, .int s25, .int s26, .int s27] = some (penS (⟨s0, s1, s2, s3, s4, s5, s6, s7, s8, s9, s10, s11, s12, s13, s14, s15, s16, s17, s18, s19, s20, s21, s22, s23, s24, s25, s26, s27⟩ : Inn)).ls := by
  show t_r14_Penalty (std (env_r14_Penalty N) N) (xOf _) = _
  generalize hres : (some (penS (⟨s0, s1, s2, s3, s4, s5, s6, s7, s8, s9, s10, s11, s12, s13, s14, s15, s16, s17, s18, s19, s20, s21, s22, s23, s24, s25, s26, s27⟩ : Inn)).ls : Option (List PV)) = RR
  simp only [t_r14_Penalty, e_r14_Penalty_r14_Clone, std, xOf, PXb, PXc, PXn, PXm, Nat.reduceAdd, Int.reduceBEq, L_r14_Clone h]
  subst hres; simp only [penS]
  rfl
def penaltyS (s : Inn) (side runs : Int) : Inn × Int :=
  cond (!(runs == 5)) (s, 23) (cond (side == s.side) (penS s, 0) ({ s with target := cond (iLt 0 s.target) (IntKind.i64.wrap (s.target + 5)) s.target }, 0))
theorem L_innings_penalty {N : Nat} {s0 s1 s2 s3 s4 s5 s6 s7 s8 s9 s10 s11 s12 s13 s15 s21 s22 s23 s25 s26 s27 : Int} {s18 s20 : Bool} {s14 s16 s17 s19 s24 : Rows} {e0 e1 e2 e3 e5 e6 e7 e8 e9 e10 e11 e13 e14 e15 e16 e18 : Int} {e4 e12 e17 : Bool} (h : Fit s14 s16 s17 s19 s24) : c_innings_penalty N [.int s0, .int s1, .int s2, .int s3, .int s4, .int s5, .int s6, .int s7, .int s8, .int s9, .int s10, .int s11, .int s12, .int s13, .rows s14, .int s15, .rows s16, .rows s17, .bool s18, .rows s19, .bool s20, .int s21, .int s22, .int s23, .rows s24, .int s25, .int s26, .int s27, .int e0, .int e1, .int e2, .int e3, .bool e4, .int e5, .int e6, .int e7, .int e8, .int e9, .int e10, .int e11, .bool e12, .int e13, .int e14, .int e15, .int e16, .bool e17, .int e18] = some (lawLs (penaltyS (⟨s0, s1, s2, s3, s4, s5, s6, s7, s8, s9, s10, s11, s12, s13, s14, s15, s16, s17, s18, s19, s20, s21, s22, s23, s24, s25, s26, s27⟩ : Inn) e1 e5)) := by
  show t_innings_penalty (std (env_innings_penalty N) N) (xOf _) = _
  generalize hres : (some (lawLs (penaltyS (⟨s0, s1, s2, s3, s4, s5, s6, s7, s8, s9, s10, s11, s12, s13, s14, s15, s16, s17, s18, s19, s20, s21, s22, s23, s24, s25, s26, s27⟩ : Inn) e1 e5)) : Option (List PV)) = RR
  simp only [t_innings_penalty, e_innings_penalty_innings_Penalty, e_innings_penalty_innings_Clone, std, xOf, PXb, PXc, PXn, PXm, Nat.reduceAdd, Int.reduceBEq, L_innings_Clone h, L_innings_Penalty h]
  subst hres; simp only [penaltyS]
  cases e5 == 5 <;> cases e1 == s0 <;> cases iLt 0 s1 <;> rfl
def reviewS (r : Rul) (s : Inn) (side : Int) (yes : Bool) : Inn × Int :=
  cond (!s.fresh || iLe r.reviews (cond (side == 2) s.rev2 s.rev1)) (s, 24) (cond (!yes) ({ s with rev1 := cond (side == 1) (inc s.rev1) s.rev1, rev2 := cond (side == 2) (inc s.rev2) s.rev2 }, 0) (s, 0))
theorem wr1 : IntKind.i64.wrap (1 - 1) = 0 := rfl
theorem wr2 : IntKind.i64.wrap (2 - 1) = 1 := rfl
theorem in02 : iIn 0 2 = true := rfl
theorem in12 : iIn 1 2 = true := rfl
theorem L_innings_review {N : Nat} {r1 r2 r3 r4 r5 r6 r7 r9 r10 r11 r12 : Int} {r8 : Bool} {r0 : ByteArray} {r13 : Rows} {s0 s1 s2 s3 s4 s5 s6 s7 s8 s9 s10 s11 s12 s13 s15 s21 s22 s23 s25 s26 s27 : Int} {s18 s20 : Bool} {s14 s16 s17 s19 s24 : Rows} {e0 e1 e2 e3 e5 e6 e7 e8 e9 e10 e11 e13 e14 e15 e16 e18 : Int} {e4 e12 e17 : Bool} (h : Fit s14 s16 s17 s19 s24) (he : e1 = 1 ∨ e1 = 2) : c_innings_review N [.str r0, .int r1, .int r2, .int r3, .int r4, .int r5, .int r6, .int r7, .bool r8, .int r9, .int r10, .int r11, .int r12, .rows r13, .int s0, .int s1, .int s2, .int s3, .int s4, .int s5, .int s6, .int s7, .int s8, .int s9, .int s10, .int s11, .int s12, .int s13, .rows s14, .int s15, .rows s16, .rows s17, .bool s18, .rows s19, .bool s20, .int s21, .int s22, .int s23, .rows s24, .int s25, .int s26, .int s27, .int e0, .int e1, .int e2, .int e3, .bool e4, .int e5, .int e6, .int e7, .int e8, .int e9, .int e10, .int e11, .bool e12, .int e13, .int e14, .int e15, .int e16, .bool e17, .int e18] = some (lawLs (reviewS (⟨r0, r1, r2, r3, r4, r5, r6, r7, r8, r9, r10, r11, r12, r13⟩ : Rul) (⟨s0, s1, s2, s3, s4, s5, s6, s7, s8, s9, s10, s11, s12, s13, s14, s15, s16, s17, s18, s19, s20, s21, s22, s23, s24, s25, s26, s27⟩ : Inn) e1 e4)) := by
  show t_innings_review (std (env_innings_review N) N) (xOf _) = _
  generalize hres : (some (lawLs (reviewS (⟨r0, r1, r2, r3, r4, r5, r6, r7, r8, r9, r10, r11, r12, r13⟩ : Rul) (⟨s0, s1, s2, s3, s4, s5, s6, s7, s8, s9, s10, s11, s12, s13, s14, s15, s16, s17, s18, s19, s20, s21, s22, s23, s24, s25, s26, s27⟩ : Inn) e1 e4)) : Option (List PV)) = RR
  rcases he with he | he <;> subst he
  · simp only [t_innings_review, e_innings_review_innings_Clone, std, xOf, PXb, PXc, PXn, PXm, Nat.reduceAdd, Int.reduceBEq, L_innings_Clone h, wr1, wr2, in02, in12]
    subst hres; simp only [reviewS, Int.reduceBEq, beq_self_eq_true, cond_true, cond_false]
    cases s18 <;> cases e4 <;> first | rfl | (cases iLe r11 s25 <;> rfl)
  · simp only [t_innings_review, e_innings_review_innings_Clone, std, xOf, PXb, PXc, PXn, PXm, Nat.reduceAdd, Int.reduceBEq, L_innings_Clone h, wr1, wr2, in02, in12]
    subst hres; simp only [reviewS, Int.reduceBEq, beq_self_eq_true, cond_true, cond_false]
    cases s18 <;> cases e4 <;> first | rfl | (cases iLe r11 s26 <;> rfl)
theorem L_r14_review {N : Nat} {r1 r2 r3 r4 r5 r6 r7 r9 r10 r11 r12 : Int} {r8 : Bool} {r0 : ByteArray} {r13 : Rows} {s0 s1 s2 s3 s4 s5 s6 s7 s8 s9 s10 s11 s12 s13 s15 s21 s22 s23 s25 s26 s27 : Int} {s18 s20 : Bool} {s14 s16 s17 s19 s24 : Rows} {n : Int} {b : Bool} (he : n = 1 ∨ n = 2) : c_r14_review N [.str r0, .int r1, .int r2, .int r3, .int r4, .int r5, .int r6, .int r7, .bool r8, .int r9, .int r10, .int r11, .int r12, .rows r13, .int s0, .int s1, .int s2, .int s3, .int s4, .int s5, .int s6, .int s7, .int s8, .int s9, .int s10, .int s11, .int s12, .int s13, .rows s14, .int s15, .rows s16, .rows s17, .bool s18, .rows s19, .bool s20, .int s21, .int s22, .int s23, .rows s24, .int s25, .int s26, .int s27, .int n, .bool b] = some (lawLs (reviewS (⟨r0, r1, r2, r3, r4, r5, r6, r7, r8, r9, r10, r11, r12, r13⟩ : Rul) (⟨s0, s1, s2, s3, s4, s5, s6, s7, s8, s9, s10, s11, s12, s13, s14, s15, s16, s17, s18, s19, s20, s21, s22, s23, s24, s25, s26, s27⟩ : Inn) n b)) := by
  show t_r14_review (std (env_r14_review N) N) (xOf _) = _
  generalize hres : (some (lawLs (reviewS (⟨r0, r1, r2, r3, r4, r5, r6, r7, r8, r9, r10, r11, r12, r13⟩ : Rul) (⟨s0, s1, s2, s3, s4, s5, s6, s7, s8, s9, s10, s11, s12, s13, s14, s15, s16, s17, s18, s19, s20, s21, s22, s23, s24, s25, s26, s27⟩ : Inn) n b)) : Option (List PV)) = RR
  rcases he with he | he <;> subst he
  · simp only [t_r14_review, std, xOf, PXb, PXc, PXn, PXm, Nat.reduceAdd, Int.reduceBEq, wr1, wr2, in02, in12]
    subst hres; simp only [reviewS, Int.reduceBEq, beq_self_eq_true, cond_true, cond_false]
    cases s18 <;> cases b <;> first | rfl | (cases iLe r11 s25 <;> rfl)
  · simp only [t_r14_review, std, xOf, PXb, PXc, PXn, PXm, Nat.reduceAdd, Int.reduceBEq, wr1, wr2, in02, in12]
    subst hres; simp only [reviewS, Int.reduceBEq, beq_self_eq_true, cond_true, cond_false]
    cases s18 <;> cases b <;> first | rfl | (cases iLe r11 s26 <;> rfl)
theorem L_innings_Balls {N : Nat} {r1 r2 r3 r4 r5 r6 r7 r9 r10 r11 r12 : Int} {r8 : Bool} {r0 : ByteArray} {r13 : Rows} {s0 s1 s2 s3 s4 s5 s6 s7 s8 s9 s10 s11 s12 s13 s15 s21 s22 s23 s25 s26 s27 : Int} {s18 s20 : Bool} {s14 s16 s17 s19 s24 : Rows}  : c_innings_Balls N [.str r0, .int r1, .int r2, .int r3, .int r4, .int r5, .int r6, .int r7, .bool r8, .int r9, .int r10, .int r11, .int r12, .rows r13, .int s0, .int s1, .int s2, .int s3, .int s4, .int s5, .int s6, .int s7, .int s8, .int s9, .int s10, .int s11, .int s12, .int s13, .rows s14, .int s15, .rows s16, .rows s17, .bool s18, .rows s19, .bool s20, .int s21, .int s22, .int s23, .rows s24, .int s25, .int s26, .int s27] = some [.int (ballsR r4 s10 s11)] := by
  rfl
theorem L_r14_Balls {N : Nat} {r1 r2 r3 r4 r5 r6 r7 r9 r10 r11 r12 : Int} {r8 : Bool} {r0 : ByteArray} {r13 : Rows} {s0 s1 s2 s3 s4 s5 s6 s7 s8 s9 s10 s11 s12 s13 s15 s21 s22 s23 s25 s26 s27 : Int} {s18 s20 : Bool} {s14 s16 s17 s19 s24 : Rows}  : c_r14_Balls N [.str r0, .int r1, .int r2, .int r3, .int r4, .int r5, .int r6, .int r7, .bool r8, .int r9, .int r10, .int r11, .int r12, .rows r13, .int s0, .int s1, .int s2, .int s3, .int s4, .int s5, .int s6, .int s7, .int s8, .int s9, .int s10, .int s11, .int s12, .int s13, .rows s14, .int s15, .rows s16, .rows s17, .bool s18, .rows s19, .bool s20, .int s21, .int s22, .int s23, .rows s24, .int s25, .int s26, .int s27] = some [.int (ballsR r4 s10 s11)] := by
  rfl
def reviseS (r : Rul) (s : Inn) (runs overs : Int) : Inn × Int :=
  cond (r.overs == 0 || (runs == 0 && overs == 0)) (s, 25) (cond (iLt 0 runs && (s.target == 0 || iLe runs s.runs)) (s, 25)
    (cond (iLt 0 overs && (iLt r.overs overs || iLt (IntKind.i64.wrap (overs * r.balls)) (ballsR r.balls s.complete s.inover))) (s, 25)
      ({ s with target := cond (iLt 0 runs) runs s.target, overs := cond (iLt 0 overs) overs s.overs }, 0)))
theorem L_innings_revise {N : Nat} {r1 r2 r3 r4 r5 r6 r7 r9 r10 r11 r12 : Int} {r8 : Bool} {r0 : ByteArray} {r13 : Rows} {s0 s1 s2 s3 s4 s5 s6 s7 s8 s9 s10 s11 s12 s13 s15 s21 s22 s23 s25 s26 s27 : Int} {s18 s20 : Bool} {s14 s16 s17 s19 s24 : Rows} {e0 e1 e2 e3 e5 e6 e7 e8 e9 e10 e11 e13 e14 e15 e16 e18 : Int} {e4 e12 e17 : Bool} (h : Fit s14 s16 s17 s19 s24) : c_innings_revise N [.str r0, .int r1, .int r2, .int r3, .int r4, .int r5, .int r6, .int r7, .bool r8, .int r9, .int r10, .int r11, .int r12, .rows r13, .int s0, .int s1, .int s2, .int s3, .int s4, .int s5, .int s6, .int s7, .int s8, .int s9, .int s10, .int s11, .int s12, .int s13, .rows s14, .int s15, .rows s16, .rows s17, .bool s18, .rows s19, .bool s20, .int s21, .int s22, .int s23, .rows s24, .int s25, .int s26, .int s27, .int e0, .int e1, .int e2, .int e3, .bool e4, .int e5, .int e6, .int e7, .int e8, .int e9, .int e10, .int e11, .bool e12, .int e13, .int e14, .int e15, .int e16, .bool e17, .int e18] = some (lawLs (reviseS (⟨r0, r1, r2, r3, r4, r5, r6, r7, r8, r9, r10, r11, r12, r13⟩ : Rul) (⟨s0, s1, s2, s3, s4, s5, s6, s7, s8, s9, s10, s11, s12, s13, s14, s15, s16, s17, s18, s19, s20, s21, s22, s23, s24, s25, s26, s27⟩ : Inn) e5 e6)) := by
  show t_innings_revise (std (env_innings_revise N) N) (xOf _) = _
  generalize hres : (some (lawLs (reviseS (⟨r0, r1, r2, r3, r4, r5, r6, r7, r8, r9, r10, r11, r12, r13⟩ : Rul) (⟨s0, s1, s2, s3, s4, s5, s6, s7, s8, s9, s10, s11, s12, s13, s14, s15, s16, s17, s18, s19, s20, s21, s22, s23, s24, s25, s26, s27⟩ : Inn) e5 e6)) : Option (List PV)) = RR
  simp only [t_innings_revise, e_innings_revise_innings_Balls, e_innings_revise_innings_Clone, std, xOf, PXb, PXc, PXn, PXm, Nat.reduceAdd, Int.reduceBEq, L_innings_Clone h, L_innings_Balls]
  subst hres; simp only [reviseS]
  cases (r3 == 0 || e5 == 0 && e6 == 0) <;> try rfl
  cases (iLt 0 e5 && (s1 == 0 || iLe e5 s3)) <;> try rfl
  cases iLt 0 e6 <;> cases iLt r3 e6 <;> try rfl
  simp only [PXb, PXc, PXn, PXm, Nat.reduceAdd, Int.reduceBEq]
  cases iLt (IntKind.i64.wrap (e6 * r4)) (ballsR r4 s10 s11) <;> rfl
theorem L_r14_revise {N : Nat} {r1 r2 r3 r4 r5 r6 r7 r9 r10 r11 r12 : Int} {r8 : Bool} {r0 : ByteArray} {r13 : Rows} {s0 s1 s2 s3 s4 s5 s6 s7 s8 s9 s10 s11 s12 s13 s15 s21 s22 s23 s25 s26 s27 : Int} {s18 s20 : Bool} {s14 s16 s17 s19 s24 : Rows} {n : Int} {m : Int}  : c_r14_revise N [.str r0, .int r1, .int r2, .int r3, .int r4, .int r5, .int r6, .int r7, .bool r8, .int r9, .int r10, .int r11, .int r12, .rows r13, .int s0, .int s1, .int s2, .int s3, .int s4, .int s5, .int s6, .int s7, .int s8, .int s9, .int s10, .int s11, .int s12, .int s13, .rows s14, .int s15, .rows s16, .rows s17, .bool s18, .rows s19, .bool s20, .int s21, .int s22, .int s23, .rows s24, .int s25, .int s26, .int s27, .int n, .int m] = some (lawLs (reviseS (⟨r0, r1, r2, r3, r4, r5, r6, r7, r8, r9, r10, r11, r12, r13⟩ : Rul) (⟨s0, s1, s2, s3, s4, s5, s6, s7, s8, s9, s10, s11, s12, s13, s14, s15, s16, s17, s18, s19, s20, s21, s22, s23, s24, s25, s26, s27⟩ : Inn) n m)) := by
  show t_r14_revise (std (env_r14_revise N) N) (xOf _) = _
  generalize hres : (some (lawLs (reviseS (⟨r0, r1, r2, r3, r4, r5, r6, r7, r8, r9, r10, r11, r12, r13⟩ : Rul) (⟨s0, s1, s2, s3, s4, s5, s6, s7, s8, s9, s10, s11, s12, s13, s14, s15, s16, s17, s18, s19, s20, s21, s22, s23, s24, s25, s26, s27⟩ : Inn) n m)) : Option (List PV)) = RR
  simp only [t_r14_revise, e_r14_revise_r14_Balls, std, xOf, PXb, PXc, PXn, PXm, Nat.reduceAdd, Int.reduceBEq, L_r14_Balls]
  subst hres; simp only [reviseS]
  cases r3 == 0 <;> try rfl
  cases (n == 0 && m == 0) <;> cases (iLt 0 n && (s1 == 0 || iLe n s3)) <;> cases iLt 0 m <;> cases iLt r3 m <;> try rfl
  all_goals (simp only [PXb, PXc, PXn, PXm, Nat.reduceAdd, Int.reduceBEq] <;> first | rfl | (cases iLt (IntKind.i64.wrap (m * r4)) (ballsR r4 s10 s11) <;> rfl))
end Go.Px
end

section
namespace Go.Px
set_option linter.unusedVariables false
set_option linter.unusedSimpArgs false
set_option maxRecDepth 100000

def performS (r : Rul) (s : Inn) (e : Ev) : Inn × Int :=
  cond (e.kind == 2) (openS s e.player e.other) (cond (e.kind == 3) (takeS r s e.player) (cond (e.kind == 4) (ballS r s e.ball)
    (cond (e.kind == 5) (cond e.yes (timeOutS s e.player) (enterS s e.player)) (cond (e.kind == 6) (retireS s e.player e.yes) (cond (e.kind == 7) (outsideS s e.runs)
      (cond (e.kind == 8) (keeperS s e.player) (cond (e.kind == 9) (substS s e.player e.yes) (cond (e.kind == 10) (newBallS r s) (cond (e.kind == 11) (declareS r s e.side)
        (cond (e.kind == 13) (penaltyS s e.side e.runs) (cond (e.kind == 14) (reviewS r s e.side e.yes) (reviseS r s e.runs e.overs))))))))))))
theorem ev_kind {e : Ev} (h : (evS e == 0) = true) : (iLt e.kind 1 || iLt 16 e.kind) = false := by
  unfold evS at h
  cases hk : (iLt e.kind 1 || iLt 16 e.kind) with
  | false => rfl
  | true => rw [hk] at h; cases h
theorem ev_side {e : Ev} (h : (evS e == 0) = true) (hk : e.kind = 14) : e.side = 1 ∨ e.side = 2 := by
  have h0 := ev_kind h
  unfold evS at h
  rw [h0] at h
  cases h1 : err1 e with
  | true => rw [h1] at h; cases h
  | false =>
    cases h2 : err2 e with
    | true => rw [h1, h2] at h; cases h
    | false =>
      unfold err2 at h2
      rw [Bool.or_eq_false_iff] at h2
      have h3 := h2.1
      rw [hk, show uS 14 = true from rfl, Bool.and_true] at h3
      simp only [btw, iLe, Bool.not_eq_false', Bool.and_eq_true, decide_eq_true_eq] at h3
      omega
set_option maxHeartbeats 4000000 in
theorem L_innings_perform {N : Nat} {r1 r2 r3 r4 r5 r6 r7 r9 r10 r11 r12 : Int} {r8 : Bool} {r0 : ByteArray} {r13 : Rows} {s0 s1 s2 s3 s4 s5 s6 s7 s8 s9 s10 s11 s12 s13 s15 s21 s22 s23 s25 s26 s27 : Int} {s18 s20 : Bool} {s14 s16 s17 s19 s24 : Rows} {e0 e1 e2 e3 e5 e6 e7 e8 e9 e10 e11 e13 e14 e15 e16 e18 : Int} {e4 e12 e17 : Bool} (h : Fit s14 s16 s17 s19 s24) (hw : s17.length + s16.length ≤ 1000000) (hN : 2097152 < N) (hs : r0.size ≤ 1048576) (h13 : r13.length ≤ 1048576) (he : (evS (⟨e0, e1, e2, e3, e4, e5, e6, ⟨e7, e8, e9, e10, e11, e12, e13, e14, e15, e16, e17, e18⟩⟩ : Ev) == 0) = true) : c_innings_perform N [.str r0, .int r1, .int r2, .int r3, .int r4, .int r5, .int r6, .int r7, .bool r8, .int r9, .int r10, .int r11, .int r12, .rows r13, .int s0, .int s1, .int s2, .int s3, .int s4, .int s5, .int s6, .int s7, .int s8, .int s9, .int s10, .int s11, .int s12, .int s13, .rows s14, .int s15, .rows s16, .rows s17, .bool s18, .rows s19, .bool s20, .int s21, .int s22, .int s23, .rows s24, .int s25, .int s26, .int s27, .int e0, .int e1, .int e2, .int e3, .bool e4, .int e5, .int e6, .int e7, .int e8, .int e9, .int e10, .int e11, .bool e12, .int e13, .int e14, .int e15, .int e16, .bool e17, .int e18] = some (lawLs (performS (⟨r0, r1, r2, r3, r4, r5, r6, r7, r8, r9, r10, r11, r12, r13⟩ : Rul) (⟨s0, s1, s2, s3, s4, s5, s6, s7, s8, s9, s10, s11, s12, s13, s14, s15, s16, s17, s18, s19, s20, s21, s22, s23, s24, s25, s26, s27⟩ : Inn) (⟨e0, e1, e2, e3, e4, e5, e6, ⟨e7, e8, e9, e10, e11, e12, e13, e14, e15, e16, e17, e18⟩⟩ : Ev))) := by
  show t_innings_perform (std (env_innings_perform N) N) (xOf _) = _
  generalize hres : (some (lawLs (performS (⟨r0, r1, r2, r3, r4, r5, r6, r7, r8, r9, r10, r11, r12, r13⟩ : Rul) (⟨s0, s1, s2, s3, s4, s5, s6, s7, s8, s9, s10, s11, s12, s13, s14, s15, s16, s17, s18, s19, s20, s21, s22, s23, s24, s25, s26, s27⟩ : Inn) (⟨e0, e1, e2, e3, e4, e5, e6, ⟨e7, e8, e9, e10, e11, e12, e13, e14, e15, e16, e17, e18⟩⟩ : Ev))) : Option (List PV)) = RR
  have hsd : e0 = 14 → e1 = 1 ∨ e1 = 2 := ev_side (e := (⟨e0, e1, e2, e3, e4, e5, e6, ⟨e7, e8, e9, e10, e11, e12, e13, e14, e15, e16, e17, e18⟩⟩ : Ev)) he
  rcases kinds16 (ev_kind he) with hk | hk | hk | hk | hk | hk | hk | hk | hk | hk | hk | hk | hk | hk | hk | hk <;> simp only at hk <;> subst hk <;> clear he
  all_goals (first
    | (have hsd := hsd rfl
       simp only [t_innings_perform, e_innings_perform_crease_Open, e_innings_perform_spell_Take, e_innings_perform_innings_ball, e_innings_perform_crease_TimeOut, e_innings_perform_crease_Enter, e_innings_perform_crease_Retire, e_innings_perform_field_Outside, e_innings_perform_field_Keeper, e_innings_perform_field_Substitute, e_innings_perform_spell_NewBall, e_innings_perform_innings_declare, e_innings_perform_innings_penalty, e_innings_perform_innings_review, e_innings_perform_innings_revise, std, xOf, PXb, PXc, PXn, PXm, Nat.reduceAdd, Int.reduceBEq, L_innings_review h hsd]
       subst hres
       rfl)
    | (simp only [t_innings_perform, e_innings_perform_crease_Open, e_innings_perform_spell_Take, e_innings_perform_innings_ball, e_innings_perform_crease_TimeOut, e_innings_perform_crease_Enter, e_innings_perform_crease_Retire, e_innings_perform_field_Outside, e_innings_perform_field_Keeper, e_innings_perform_field_Substitute, e_innings_perform_spell_NewBall, e_innings_perform_innings_declare, e_innings_perform_innings_penalty, e_innings_perform_innings_review, e_innings_perform_innings_revise, std, xOf, PXb, PXc, PXn, PXm, Nat.reduceAdd, Int.reduceBEq, L_crease_Open h hN, L_spell_Take h hN hs, L_innings_ball h hw hN hs h13, L_crease_TimeOut h hN, L_crease_Enter h hN, L_crease_Retire h hN, L_field_Outside h, L_field_Keeper h, L_field_Substitute h, L_spell_NewBall h hN hs, L_innings_declare h, L_innings_penalty h, L_innings_revise h]
       subst hres
       first
       | rfl
       | (cases e4 <;> rfl)))
def actS (r : Rul) (s : Inn) (e : Ev) : Inn × Int := cond (e.kind == 1 || e.kind == 12 || e.kind == 16) (s, 1) (performS r s e)
set_option maxHeartbeats 4000000 in
theorem L_r14_act {N : Nat} {r1 r2 r3 r4 r5 r6 r7 r9 r10 r11 r12 : Int} {r8 : Bool} {r0 : ByteArray} {r13 : Rows} {s0 s1 s2 s3 s4 s5 s6 s7 s8 s9 s10 s11 s12 s13 s15 s21 s22 s23 s25 s26 s27 : Int} {s18 s20 : Bool} {s14 s16 s17 s19 s24 : Rows} {e0 e1 e2 e3 e5 e6 e7 e8 e9 e10 e11 e13 e14 e15 e16 e18 : Int} {e4 e12 e17 : Bool} (h : Fit s14 s16 s17 s19 s24) (hw : s17.length + s16.length ≤ 1000000) (hN : 2097152 < N) (hs : r0.size ≤ 1048576) (h13 : r13.length ≤ 1048576) (he : (evS (⟨e0, e1, e2, e3, e4, e5, e6, ⟨e7, e8, e9, e10, e11, e12, e13, e14, e15, e16, e17, e18⟩⟩ : Ev) == 0) = true) : c_r14_act N [.str r0, .int r1, .int r2, .int r3, .int r4, .int r5, .int r6, .int r7, .bool r8, .int r9, .int r10, .int r11, .int r12, .rows r13, .int s0, .int s1, .int s2, .int s3, .int s4, .int s5, .int s6, .int s7, .int s8, .int s9, .int s10, .int s11, .int s12, .int s13, .rows s14, .int s15, .rows s16, .rows s17, .bool s18, .rows s19, .bool s20, .int s21, .int s22, .int s23, .rows s24, .int s25, .int s26, .int s27, .int e0, .int e1, .int e2, .int e3, .bool e4, .int e5, .int e6, .int e7, .int e8, .int e9, .int e10, .int e11, .bool e12, .int e13, .int e14, .int e15, .int e16, .bool e17, .int e18] = some (lawLs (actS (⟨r0, r1, r2, r3, r4, r5, r6, r7, r8, r9, r10, r11, r12, r13⟩ : Rul) (⟨s0, s1, s2, s3, s4, s5, s6, s7, s8, s9, s10, s11, s12, s13, s14, s15, s16, s17, s18, s19, s20, s21, s22, s23, s24, s25, s26, s27⟩ : Inn) (⟨e0, e1, e2, e3, e4, e5, e6, ⟨e7, e8, e9, e10, e11, e12, e13, e14, e15, e16, e17, e18⟩⟩ : Ev))) := by
  show t_r14_act (std (env_r14_act N) N) (xOf _) = _
  generalize hres : (some (lawLs (actS (⟨r0, r1, r2, r3, r4, r5, r6, r7, r8, r9, r10, r11, r12, r13⟩ : Rul) (⟨s0, s1, s2, s3, s4, s5, s6, s7, s8, s9, s10, s11, s12, s13, s14, s15, s16, s17, s18, s19, s20, s21, s22, s23, s24, s25, s26, s27⟩ : Inn) (⟨e0, e1, e2, e3, e4, e5, e6, ⟨e7, e8, e9, e10, e11, e12, e13, e14, e15, e16, e17, e18⟩⟩ : Ev))) : Option (List PV)) = RR
  have hsd : e0 = 14 → e1 = 1 ∨ e1 = 2 := ev_side (e := (⟨e0, e1, e2, e3, e4, e5, e6, ⟨e7, e8, e9, e10, e11, e12, e13, e14, e15, e16, e17, e18⟩⟩ : Ev)) he
  rcases kinds16 (ev_kind he) with hk | hk | hk | hk | hk | hk | hk | hk | hk | hk | hk | hk | hk | hk | hk | hk <;> simp only at hk <;> subst hk <;> clear he
  all_goals (first
    | (have hsd := hsd rfl
       simp only [t_r14_act, e_r14_act_r14_Penalty, e_r14_act_r12_Open, e_r14_act_r13_Take, e_r14_act_r14_ball, e_r14_act_r12_TimeOut, e_r14_act_r12_Enter, e_r14_act_r12_Retire, e_r14_act_r11_Outside, e_r14_act_r11_Keeper, e_r14_act_r11_Substitute, e_r14_act_r13_NewBall, e_r14_act_r14_review, e_r14_act_r14_revise, std, xOf, PXb, PXc, PXn, PXm, Nat.reduceAdd, Int.reduceBEq, L_r14_review hsd]
       subst hres
       rfl)
    | (simp only [t_r14_act, e_r14_act_r14_Penalty, e_r14_act_r12_Open, e_r14_act_r13_Take, e_r14_act_r14_ball, e_r14_act_r12_TimeOut, e_r14_act_r12_Enter, e_r14_act_r12_Retire, e_r14_act_r11_Outside, e_r14_act_r11_Keeper, e_r14_act_r11_Substitute, e_r14_act_r13_NewBall, e_r14_act_r14_review, e_r14_act_r14_revise, std, xOf, PXb, PXc, PXn, PXm, Nat.reduceAdd, Int.reduceBEq, L_r12_Open h hN, L_r13_Take h hN hs, L_r14_ball h hw hN hs h13, L_r12_TimeOut h hN, L_r12_Enter h hN, L_r12_Retire h hN, L_r11_Outside h, L_r11_Keeper h, L_r11_Substitute h, L_r13_NewBall h hN hs, L_r14_Penalty h, L_r14_revise]
       subst hres
       first
       | rfl
       | (cases e4 <;> rfl)
       | (unfold actS performS declareS; simp only [PXb, PXc, PXn, PXm, Nat.reduceAdd, Int.reduceBEq]; cases e1 == s0 <;> cases r3 == 0 <;> rfl)
       | (unfold actS performS penaltyS penS; simp only [PXb, PXc, PXn, PXm, Nat.reduceAdd, Int.reduceBEq]; cases e5 == 5 <;> cases e1 == s0 <;> cases iLt 0 s1 <;> rfl)))
end Go.Px
end

section
namespace Go.Px
set_option linter.unusedVariables false
set_option linter.unusedSimpArgs false
set_option maxRecDepth 100000

theorem Lens.of {s t : Inn} (h1 : t.batters.length = s.batters.length) (h2 : t.bowled.length = s.bowled.length) (h3 : t.subs.length = s.subs.length) (h4 : t.bowlers = s.bowlers) (h5 : t.before = s.before) : Lens s t := ⟨h1, h2, h3, by rw [h4]; omega, by rw [h5]; omega⟩
theorem L_c {s : Inn} (b : Bool) (x y : Inn × Int) (hx : Lens s x.1) (hy : Lens s y.1) : Lens s (cond b x y).1 := by cases b <;> assumption
theorem open_lens (s : Inn) (p q : Int) : Lens s (openS s p q).1 := by
  unfold openS
  exact L_c _ _ _ (Lens.refl s) (L_c _ _ _ (Lens.refl s) (L_c _ _ _ (Lens.refl s) (Lens.of (by simp [setI_len]) rfl rfl rfl rfl)))
theorem take_lens (r : Rul) (s : Inn) (p : Int) : Lens s (takeS r s p).1 := by
  unfold takeS
  exact P_c (P := fun x : Inn => Lens s x) _ _ _ (Lens.of rfl rfl rfl rfl rfl) (Lens.refl s)
theorem ball_lens (r : Rul) (s : Inn) (d : Del) : Lens s (ballS r s d).1 := by
  unfold ballS
  refine L_c _ _ _ (Lens.refl s) ?_
  have l1 := ran_lens s d
  have w1 := ran_bw s d
  have w2 := ran_bf s d
  simp only [over_add]
  have l2 := over_lens r (ranS s d) (creditS r d).counts
  cases (overS r (ranS s d) (creditS r d).counts).2
  · exact ⟨l2.bt.trans l1.bt, l2.bd.trans l1.bd, l2.sb.trans l1.sb, by have := l2.bw; rw [w1] at this; exact this, by have := l2.bf; rw [w1, w2] at this; exact this⟩
  · exact ⟨l2.bt.trans l1.bt, l2.bd.trans l1.bd, l2.sb.trans l1.sb, by have := l2.bw; rw [w1] at this; exact this, by have := l2.bf; rw [w1, w2] at this; exact this⟩
theorem timeOut_lens (s : Inn) (p : Int) : Lens s (timeOutS s p).1 := by
  unfold timeOutS
  exact L_c _ _ _ (Lens.of (by simp [setI_len]) rfl rfl rfl rfl) (Lens.refl s)
theorem enter_lens (s : Inn) (p : Int) : Lens s (enterS s p).1 := by
  unfold enterS
  exact L_c _ _ _ (Lens.of (by simp [setI_len]) rfl rfl rfl rfl) (Lens.refl s)
theorem retire_lens (s : Inn) (p : Int) (b : Bool) : Lens s (retireS s p b).1 := by
  unfold retireS
  exact L_c _ _ _ (Lens.refl s) (L_c _ _ _ (Lens.refl s) (L_c _ _ _ (Lens.refl s) (L_c _ _ _ (Lens.refl s) (Lens.of (by simp [setI_len]) rfl rfl rfl rfl))))
theorem outside_lens (s : Inn) (n : Int) : Lens s (outsideS s n).1 := by
  unfold outsideS
  exact L_c _ _ _ (Lens.refl s) (Lens.of rfl rfl rfl rfl rfl)
theorem keeper_lens (s : Inn) (n : Int) : Lens s (keeperS s n).1 := by
  unfold keeperS
  exact L_c _ _ _ (Lens.refl s) (L_c _ _ _ (Lens.refl s) (L_c _ _ _ (Lens.refl s) (Lens.of rfl rfl rfl rfl rfl)))
theorem subst_lens (s : Inn) (n : Int) (b : Bool) : Lens s (substS s n b).1 := by
  unfold substS
  exact L_c _ _ _ (Lens.refl s) (L_c _ _ _ (Lens.refl s) (Lens.of rfl rfl (by simp [setB_len]) rfl rfl))
theorem newBall_lens (r : Rul) (s : Inn) : Lens s (newBallS r s).1 := by
  unfold newBallS
  exact L_c _ _ _ (Lens.refl s) (Lens.of rfl rfl rfl rfl rfl)
theorem declare_lens (r : Rul) (s : Inn) (n : Int) : Lens s (declareS r s n).1 := by
  unfold declareS
  exact L_c _ _ _ (Lens.refl s) (L_c _ _ _ (Lens.refl s) (Lens.of rfl rfl rfl rfl rfl))
theorem penalty_lens (s : Inn) (n m : Int) : Lens s (penaltyS s n m).1 := by
  unfold penaltyS
  exact L_c _ _ _ (Lens.refl s) (L_c _ _ _ (Lens.of rfl rfl rfl rfl rfl) (Lens.of rfl rfl rfl rfl rfl))
theorem review_lens (r : Rul) (s : Inn) (n : Int) (b : Bool) : Lens s (reviewS r s n b).1 := by
  unfold reviewS
  exact L_c _ _ _ (Lens.refl s) (L_c _ _ _ (Lens.of rfl rfl rfl rfl rfl) (Lens.refl s))
theorem revise_lens (r : Rul) (s : Inn) (n m : Int) : Lens s (reviseS r s n m).1 := by
  unfold reviseS
  exact L_c _ _ _ (Lens.refl s) (L_c _ _ _ (Lens.refl s) (L_c _ _ _ (Lens.refl s) (Lens.of rfl rfl rfl rfl rfl)))
theorem perform_lens (r : Rul) (s : Inn) (e : Ev) : Lens s (performS r s e).1 := by
  unfold performS
  exact L_c _ _ _ (open_lens ..) (L_c _ _ _ (take_lens ..) (L_c _ _ _ (ball_lens ..) (L_c _ _ _ (L_c _ _ _ (timeOut_lens ..) (enter_lens ..)) (L_c _ _ _ (retire_lens ..) (L_c _ _ _ (outside_lens ..)
    (L_c _ _ _ (keeper_lens ..) (L_c _ _ _ (subst_lens ..) (L_c _ _ _ (newBall_lens ..) (L_c _ _ _ (declare_lens ..) (L_c _ _ _ (penalty_lens ..) (L_c _ _ _ (review_lens ..) (revise_lens ..))))))))))))

def validS (r : Rul) (s : Inn) : Bool := validR r.name r.side r.innings r.overs r.balls r.quota r.wide r.noball r.newball r.followon r.reviews r.outside r.power s.batters s.bowlers s.before s.bowled s.subs s.side s.target s.overs s.runs s.wickets s.wides s.noballs s.byes s.legbyes s.pens s.complete s.inover s.striker s.other s.bowler s.ballage s.keeper s.outside s.rev1 s.rev2 s.ending
def endS (r : Rul) (s : Inn) : Int := endR (validS r s) s.batters s.striker s.other s.target s.overs s.runs s.complete
theorem L_innings_Valid {N : Nat} {r1 r2 r3 r4 r5 r6 r7 r9 r10 r11 r12 : Int} {r8 : Bool} {r0 : ByteArray} {r13 : Rows} {s0 s1 s2 s3 s4 s5 s6 s7 s8 s9 s10 s11 s12 s13 s15 s21 s22 s23 s25 s26 s27 : Int} {s18 s20 : Bool} {s14 s16 s17 s19 s24 : Rows} (h : Fit s14 s16 s17 s19 s24) (hN : 2097152 < N) (hs : r0.size ≤ 1048576) : c_innings_Valid N [.str r0, .int r1, .int r2, .int r3, .int r4, .int r5, .int r6, .int r7, .bool r8, .int r9, .int r10, .int r11, .int r12, .rows r13, .int s0, .int s1, .int s2, .int s3, .int s4, .int s5, .int s6, .int s7, .int s8, .int s9, .int s10, .int s11, .int s12, .int s13, .rows s14, .int s15, .rows s16, .rows s17, .bool s18, .rows s19, .bool s20, .int s21, .int s22, .int s23, .rows s24, .int s25, .int s26, .int s27] = some [.bool (validS (⟨r0, r1, r2, r3, r4, r5, r6, r7, r8, r9, r10, r11, r12, r13⟩ : Rul) (⟨s0, s1, s2, s3, s4, s5, s6, s7, s8, s9, s10, s11, s12, s13, s14, s15, s16, s17, s18, s19, s20, s21, s22, s23, s24, s25, s26, s27⟩ : Inn))] := by
  exact LL_innings_Valid N _ _ _ _ _ _ _ _ _ _ _ _ _ _ _ _ _ _ _ _ _ _ _ _ _ _ _ _ _ _ _ _ _ _ _ _ _ _ _ _ _ _ hN hs h.bt h.bw h.bf h.bd
theorem L_r14_Valid {N : Nat} {r1 r2 r3 r4 r5 r6 r7 r9 r10 r11 r12 : Int} {r8 : Bool} {r0 : ByteArray} {r13 : Rows} {s0 s1 s2 s3 s4 s5 s6 s7 s8 s9 s10 s11 s12 s13 s15 s21 s22 s23 s25 s26 s27 : Int} {s18 s20 : Bool} {s14 s16 s17 s19 s24 : Rows} (h : Fit s14 s16 s17 s19 s24) (hN : 2097152 < N) (hs : r0.size ≤ 1048576) : c_r14_Valid N [.str r0, .int r1, .int r2, .int r3, .int r4, .int r5, .int r6, .int r7, .bool r8, .int r9, .int r10, .int r11, .int r12, .rows r13, .int s0, .int s1, .int s2, .int s3, .int s4, .int s5, .int s6, .int s7, .int s8, .int s9, .int s10, .int s11, .int s12, .int s13, .rows s14, .int s15, .rows s16, .rows s17, .bool s18, .rows s19, .bool s20, .int s21, .int s22, .int s23, .rows s24, .int s25, .int s26, .int s27] = some [.bool (validS (⟨r0, r1, r2, r3, r4, r5, r6, r7, r8, r9, r10, r11, r12, r13⟩ : Rul) (⟨s0, s1, s2, s3, s4, s5, s6, s7, s8, s9, s10, s11, s12, s13, s14, s15, s16, s17, s18, s19, s20, s21, s22, s23, s24, s25, s26, s27⟩ : Inn))] := by
  exact LL_r14_Valid N _ _ _ _ _ _ _ _ _ _ _ _ _ _ _ _ _ _ _ _ _ _ _ _ _ _ _ _ _ _ _ _ _ _ _ _ _ _ _ _ _ _ hN hs h.bt h.bw h.bf h.bd
theorem L_innings_Ending {N : Nat} {r1 r2 r3 r4 r5 r6 r7 r9 r10 r11 r12 : Int} {r8 : Bool} {r0 : ByteArray} {r13 : Rows} {s0 s1 s2 s3 s4 s5 s6 s7 s8 s9 s10 s11 s12 s13 s15 s21 s22 s23 s25 s26 s27 : Int} {s18 s20 : Bool} {s14 s16 s17 s19 s24 : Rows} (h : Fit s14 s16 s17 s19 s24) (hN : 2097152 < N) (hs : r0.size ≤ 1048576) : c_innings_Ending N [.str r0, .int r1, .int r2, .int r3, .int r4, .int r5, .int r6, .int r7, .bool r8, .int r9, .int r10, .int r11, .int r12, .rows r13, .int s0, .int s1, .int s2, .int s3, .int s4, .int s5, .int s6, .int s7, .int s8, .int s9, .int s10, .int s11, .int s12, .int s13, .rows s14, .int s15, .rows s16, .rows s17, .bool s18, .rows s19, .bool s20, .int s21, .int s22, .int s23, .rows s24, .int s25, .int s26, .int s27] = some [.int (endS (⟨r0, r1, r2, r3, r4, r5, r6, r7, r8, r9, r10, r11, r12, r13⟩ : Rul) (⟨s0, s1, s2, s3, s4, s5, s6, s7, s8, s9, s10, s11, s12, s13, s14, s15, s16, s17, s18, s19, s20, s21, s22, s23, s24, s25, s26, s27⟩ : Inn))] := by
  exact LL_innings_Ending N _ _ _ _ _ _ _ _ _ _ _ _ _ _ _ _ _ _ _ _ _ _ _ _ _ _ _ _ _ _ _ _ _ _ _ _ _ _ _ _ _ _ hN hs h.bt h.bw h.bf h.bd
theorem L_r14_Ending {N : Nat} {r1 r2 r3 r4 r5 r6 r7 r9 r10 r11 r12 : Int} {r8 : Bool} {r0 : ByteArray} {r13 : Rows} {s0 s1 s2 s3 s4 s5 s6 s7 s8 s9 s10 s11 s12 s13 s15 s21 s22 s23 s25 s26 s27 : Int} {s18 s20 : Bool} {s14 s16 s17 s19 s24 : Rows} (h : Fit s14 s16 s17 s19 s24) (hN : 2097152 < N) (hs : r0.size ≤ 1048576) : c_r14_Ending N [.str r0, .int r1, .int r2, .int r3, .int r4, .int r5, .int r6, .int r7, .bool r8, .int r9, .int r10, .int r11, .int r12, .rows r13, .int s0, .int s1, .int s2, .int s3, .int s4, .int s5, .int s6, .int s7, .int s8, .int s9, .int s10, .int s11, .int s12, .int s13, .rows s14, .int s15, .rows s16, .rows s17, .bool s18, .rows s19, .bool s20, .int s21, .int s22, .int s23, .rows s24, .int s25, .int s26, .int s27] = some [.int (endS (⟨r0, r1, r2, r3, r4, r5, r6, r7, r8, r9, r10, r11, r12, r13⟩ : Rul) (⟨s0, s1, s2, s3, s4, s5, s6, s7, s8, s9, s10, s11, s12, s13, s14, s15, s16, s17, s18, s19, s20, s21, s22, s23, s24, s25, s26, s27⟩ : Inn))] := by
  exact LL_r14_Ending N _ _ _ _ _ _ _ _ _ _ _ _ _ _ _ _ _ _ _ _ _ _ _ _ _ _ _ _ _ _ _ _ _ _ _ _ _ _ _ _ _ _ hN hs h.bt h.bw h.bf h.bd
def freshS (t : Inn) (b : Bool) : Inn := ⟨t.side, t.target, t.overs, t.runs, t.wickets, t.wides, t.noballs, t.byes, t.legbyes, t.pens, t.complete, t.inover, t.striker, t.other, t.batters, t.bowler, t.bowlers, t.before, b, t.bowled, t.freehit, t.ballage, t.keeper, t.outside, t.subs, t.rev1, t.rev2, t.ending⟩
def finishS (r : Rul) (t : Inn) (b : Bool) : Inn := { freshS t b with ending := cond (t.ending == 0) (endS r (freshS t b)) t.ending }
def noWay (s : Inn) (e : Ev) : Bool := e.kind == 1 || e.kind == 12 || e.kind == 16 || (!begunR s.batters && !(e.kind == 2))
def stepS (r : Rul) (s : Inn) (e : Ev) : Inn × Int :=
  cond (!validS r s || !(evS e == 0)) (s, 1) (cond (!(s.ending == 0)) (s, 26) (cond (noWay s e) (s, 1)
    (cond (!((performS r s e).2 == 0)) (s, (performS r s e).2) (finishS r (performS r s e).1 (e.kind == 4), 0))))
set_option maxHeartbeats 4000000 in
theorem L_innings_Step {N : Nat} {r1 r2 r3 r4 r5 r6 r7 r9 r10 r11 r12 : Int} {r8 : Bool} {r0 : ByteArray} {r13 : Rows} {s0 s1 s2 s3 s4 s5 s6 s7 s8 s9 s10 s11 s12 s13 s15 s21 s22 s23 s25 s26 s27 : Int} {s18 s20 : Bool} {s14 s16 s17 s19 s24 : Rows} {e0 e1 e2 e3 e5 e6 e7 e8 e9 e10 e11 e13 e14 e15 e16 e18 : Int} {e4 e12 e17 : Bool} (h : Fit s14 s16 s17 s19 s24) (hw : s17.length + s16.length ≤ 1000000) (hN : 2097152 < N) (hs : r0.size ≤ 1048576) (h13 : r13.length ≤ 1048576) : c_innings_Step N [.str r0, .int r1, .int r2, .int r3, .int r4, .int r5, .int r6, .int r7, .bool r8, .int r9, .int r10, .int r11, .int r12, .rows r13, .int s0, .int s1, .int s2, .int s3, .int s4, .int s5, .int s6, .int s7, .int s8, .int s9, .int s10, .int s11, .int s12, .int s13, .rows s14, .int s15, .rows s16, .rows s17, .bool s18, .rows s19, .bool s20, .int s21, .int s22, .int s23, .rows s24, .int s25, .int s26, .int s27, .int e0, .int e1, .int e2, .int e3, .bool e4, .int e5, .int e6, .int e7, .int e8, .int e9, .int e10, .int e11, .bool e12, .int e13, .int e14, .int e15, .int e16, .bool e17, .int e18] = some (lawLs (stepS (⟨r0, r1, r2, r3, r4, r5, r6, r7, r8, r9, r10, r11, r12, r13⟩ : Rul) (⟨s0, s1, s2, s3, s4, s5, s6, s7, s8, s9, s10, s11, s12, s13, s14, s15, s16, s17, s18, s19, s20, s21, s22, s23, s24, s25, s26, s27⟩ : Inn) (⟨e0, e1, e2, e3, e4, e5, e6, ⟨e7, e8, e9, e10, e11, e12, e13, e14, e15, e16, e17, e18⟩⟩ : Ev))) := by
  show t_innings_Step (std (env_innings_Step N) N) (xOf _) = _
  generalize hres : (some (lawLs (stepS (⟨r0, r1, r2, r3, r4, r5, r6, r7, r8, r9, r10, r11, r12, r13⟩ : Rul) (⟨s0, s1, s2, s3, s4, s5, s6, s7, s8, s9, s10, s11, s12, s13, s14, s15, s16, s17, s18, s19, s20, s21, s22, s23, s24, s25, s26, s27⟩ : Inn) (⟨e0, e1, e2, e3, e4, e5, e6, ⟨e7, e8, e9, e10, e11, e12, e13, e14, e15, e16, e17, e18⟩⟩ : Ev))) : Option (List PV)) = RR
  have l1 := perform_lens (⟨r0, r1, r2, r3, r4, r5, r6, r7, r8, r9, r10, r11, r12, r13⟩ : Rul) (⟨s0, s1, s2, s3, s4, s5, s6, s7, s8, s9, s10, s11, s12, s13, s14, s15, s16, s17, s18, s19, s20, s21, s22, s23, s24, s25, s26, s27⟩ : Inn) (⟨e0, e1, e2, e3, e4, e5, e6, ⟨e7, e8, e9, e10, e11, e12, e13, e14, e15, e16, e17, e18⟩⟩ : Ev)
  have f1 := fit_of l1 h (by simp only; omega)
  simp only [t_innings_Step, e_innings_Step_innings_Valid, e_innings_Step_innings_Ending, e_innings_Step_innings_Clone, e_innings_Step_event_Check, e_innings_Step_innings_begun, e_innings_Step_innings_perform, std, xOf, PXb, L_innings_Valid h hN hs, L_event_Check hN, L_innings_Clone h, L_innings_begun h.bt hN]
  subst hres; simp only [stepS, noWay]
  cases validS (⟨r0, r1, r2, r3, r4, r5, r6, r7, r8, r9, r10, r11, r12, r13⟩ : Rul) (⟨s0, s1, s2, s3, s4, s5, s6, s7, s8, s9, s10, s11, s12, s13, s14, s15, s16, s17, s18, s19, s20, s21, s22, s23, s24, s25, s26, s27⟩ : Inn)
  · rfl
  cases he : evS (⟨e0, e1, e2, e3, e4, e5, e6, ⟨e7, e8, e9, e10, e11, e12, e13, e14, e15, e16, e17, e18⟩⟩ : Ev) == 0
  · simp only [PXb, PXc, PXn, PXm, Nat.reduceAdd, Int.reduceBEq, he]
  simp only [PXb, PXc, PXn, PXm, Nat.reduceAdd, Int.reduceBEq, he]
  cases s27 == 0 <;> try rfl
  cases (e0 == 1 || e0 == 12 || e0 == 16) <;> cases begunR s14 <;> cases e0 == 2 <;> try rfl
  all_goals (simp only [PXb, PXc, PXn, PXm, Nat.reduceAdd, Int.reduceBEq, e_innings_Step_innings_perform, e_innings_Step_innings_Ending, L_innings_perform h hw hN hs h13 he, L_innings_Ending f1 hN hs])
  all_goals (unfold finishS freshS; cases (performS (⟨r0, r1, r2, r3, r4, r5, r6, r7, r8, r9, r10, r11, r12, r13⟩ : Rul) (⟨s0, s1, s2, s3, s4, s5, s6, s7, s8, s9, s10, s11, s12, s13, s14, s15, s16, s17, s18, s19, s20, s21, s22, s23, s24, s25, s26, s27⟩ : Inn) (⟨e0, e1, e2, e3, e4, e5, e6, ⟨e7, e8, e9, e10, e11, e12, e13, e14, e15, e16, e17, e18⟩⟩ : Ev)).2 == 0 <;> cases (performS (⟨r0, r1, r2, r3, r4, r5, r6, r7, r8, r9, r10, r11, r12, r13⟩ : Rul) (⟨s0, s1, s2, s3, s4, s5, s6, s7, s8, s9, s10, s11, s12, s13, s14, s15, s16, s17, s18, s19, s20, s21, s22, s23, s24, s25, s26, s27⟩ : Inn) (⟨e0, e1, e2, e3, e4, e5, e6, ⟨e7, e8, e9, e10, e11, e12, e13, e14, e15, e16, e17, e18⟩⟩ : Ev)).1.ending == 0 <;> rfl)
end Go.Px
end

section
namespace Go.Px
set_option linter.unusedVariables false
set_option linter.unusedSimpArgs false
set_option maxRecDepth 100000

set_option maxHeartbeats 4000000 in
theorem L_r14_Step {N : Nat} {r1 r2 r3 r4 r5 r6 r7 r9 r10 r11 r12 : Int} {r8 : Bool} {r0 : ByteArray} {r13 : Rows} {s0 s1 s2 s3 s4 s5 s6 s7 s8 s9 s10 s11 s12 s13 s15 s21 s22 s23 s25 s26 s27 : Int} {s18 s20 : Bool} {s14 s16 s17 s19 s24 : Rows} {e0 e1 e2 e3 e5 e6 e7 e8 e9 e10 e11 e13 e14 e15 e16 e18 : Int} {e4 e12 e17 : Bool} (h : Fit s14 s16 s17 s19 s24) (hw : s17.length + s16.length ≤ 1000000) (hN : 2097152 < N) (hs : r0.size ≤ 1048576) (h13 : r13.length ≤ 1048576) : c_r14_Step N [.str r0, .int r1, .int r2, .int r3, .int r4, .int r5, .int r6, .int r7, .bool r8, .int r9, .int r10, .int r11, .int r12, .rows r13, .int s0, .int s1, .int s2, .int s3, .int s4, .int s5, .int s6, .int s7, .int s8, .int s9, .int s10, .int s11, .int s12, .int s13, .rows s14, .int s15, .rows s16, .rows s17, .bool s18, .rows s19, .bool s20, .int s21, .int s22, .int s23, .rows s24, .int s25, .int s26, .int s27, .int e0, .int e1, .int e2, .int e3, .bool e4, .int e5, .int e6, .int e7, .int e8, .int e9, .int e10, .int e11, .bool e12, .int e13, .int e14, .int e15, .int e16, .bool e17, .int e18] = some (lawLs (stepS (⟨r0, r1, r2, r3, r4, r5, r6, r7, r8, r9, r10, r11, r12, r13⟩ : Rul) (⟨s0, s1, s2, s3, s4, s5, s6, s7, s8, s9, s10, s11, s12, s13, s14, s15, s16, s17, s18, s19, s20, s21, s22, s23, s24, s25, s26, s27⟩ : Inn) (⟨e0, e1, e2, e3, e4, e5, e6, ⟨e7, e8, e9, e10, e11, e12, e13, e14, e15, e16, e17, e18⟩⟩ : Ev))) := by
  show t_r14_Step (std (env_r14_Step N) N) (xOf _) = _
  generalize hres : (some (lawLs (stepS (⟨r0, r1, r2, r3, r4, r5, r6, r7, r8, r9, r10, r11, r12, r13⟩ : Rul) (⟨s0, s1, s2, s3, s4, s5, s6, s7, s8, s9, s10, s11, s12, s13, s14, s15, s16, s17, s18, s19, s20, s21, s22, s23, s24, s25, s26, s27⟩ : Inn) (⟨e0, e1, e2, e3, e4, e5, e6, ⟨e7, e8, e9, e10, e11, e12, e13, e14, e15, e16, e17, e18⟩⟩ : Ev))) : Option (List PV)) = RR
  have l1 := perform_lens (⟨r0, r1, r2, r3, r4, r5, r6, r7, r8, r9, r10, r11, r12, r13⟩ : Rul) (⟨s0, s1, s2, s3, s4, s5, s6, s7, s8, s9, s10, s11, s12, s13, s14, s15, s16, s17, s18, s19, s20, s21, s22, s23, s24, s25, s26, s27⟩ : Inn) (⟨e0, e1, e2, e3, e4, e5, e6, ⟨e7, e8, e9, e10, e11, e12, e13, e14, e15, e16, e17, e18⟩⟩ : Ev)
  have f1 := fit_of l1 h (by simp only; omega)
  simp only [t_r14_Step, e_r14_Step_r14_Valid, e_r14_Step_r14_Ending, e_r14_Step_r14_Clone, e_r14_Step_r08_Check, e_r14_Step_r12_Begun, e_r14_Step_r14_act, std, xOf, PXb, L_r14_Clone h, L_r14_Valid h hN hs, L_r08_Check, L_r12_Begun h.bt hN]
  subst hres; simp only [stepS, noWay]
  cases validS (⟨r0, r1, r2, r3, r4, r5, r6, r7, r8, r9, r10, r11, r12, r13⟩ : Rul) (⟨s0, s1, s2, s3, s4, s5, s6, s7, s8, s9, s10, s11, s12, s13, s14, s15, s16, s17, s18, s19, s20, s21, s22, s23, s24, s25, s26, s27⟩ : Inn)
  · rfl
  cases he : evS (⟨e0, e1, e2, e3, e4, e5, e6, ⟨e7, e8, e9, e10, e11, e12, e13, e14, e15, e16, e17, e18⟩⟩ : Ev) == 0
  · simp only [PXb, PXc, PXn, PXm, Nat.reduceAdd, Int.reduceBEq, he]
  simp only [PXb, PXc, PXn, PXm, Nat.reduceAdd, Int.reduceBEq, he]
  cases s27 == 0 <;> try rfl
  cases h2 : e0 == 2 <;> cases h1 : e0 == 1 <;> cases hc : e0 == 12 <;> cases hd : e0 == 16 <;> cases begunR s14 <;> try rfl
  all_goals first
    | (rw [eqne h2 (c := 1) rfl] at h1; exact absurd h1 (by decide))
    | (rw [eqne h2 (c := 12) rfl] at hc; exact absurd hc (by decide))
    | (rw [eqne h2 (c := 16) rfl] at hd; exact absurd hd (by decide))
    | (simp only [PXb, PXc, PXn, PXm, Nat.reduceAdd, Int.reduceBEq, e_r14_Step_r14_act, L_r14_act h hw hN hs h13 he, actS, h1, hc, hd]; done)
    | skip
  all_goals (simp only [PXb, PXc, PXn, PXm, Nat.reduceAdd, Int.reduceBEq, e_r14_Step_r14_act, e_r14_Step_r14_Ending, L_r14_act h hw hN hs h13 he, actS, h1, hc, hd, L_r14_Ending f1 hN hs])
  all_goals (unfold finishS freshS; cases (performS (⟨r0, r1, r2, r3, r4, r5, r6, r7, r8, r9, r10, r11, r12, r13⟩ : Rul) (⟨s0, s1, s2, s3, s4, s5, s6, s7, s8, s9, s10, s11, s12, s13, s14, s15, s16, s17, s18, s19, s20, s21, s22, s23, s24, s25, s26, s27⟩ : Inn) (⟨e0, e1, e2, e3, e4, e5, e6, ⟨e7, e8, e9, e10, e11, e12, e13, e14, e15, e16, e17, e18⟩⟩ : Ev)).2 == 0 <;> cases (performS (⟨r0, r1, r2, r3, r4, r5, r6, r7, r8, r9, r10, r11, r12, r13⟩ : Rul) (⟨s0, s1, s2, s3, s4, s5, s6, s7, s8, s9, s10, s11, s12, s13, s14, s15, s16, s17, s18, s19, s20, s21, s22, s23, s24, s25, s26, s27⟩ : Inn) (⟨e0, e1, e2, e3, e4, e5, e6, ⟨e7, e8, e9, e10, e11, e12, e13, e14, e15, e16, e17, e18⟩⟩ : Ev)).1.ending == 0 <;> rfl)
def eqL (L M : Rows) : Bool := ((L.length : Int) == (M.length : Int)) && !anyR (fun i => !(atI L i 0 == atI M i 0)) L.length 0
def eqB (L M : Rows) : Bool := ((L.length : Int) == (M.length : Int)) && !anyR (fun i => !(atB L i 0 == atB M i 0)) L.length 0
def eqN (s t : Inn) : Bool := s.side == t.side && s.target == t.target && s.overs == t.overs && s.runs == t.runs && s.wickets == t.wickets && (s.wides == t.wides && (s.noballs == t.noballs && (s.byes == t.byes && (s.legbyes == t.legbyes && s.pens == t.pens)))) && s.complete == t.complete && s.inover == t.inover && s.striker == t.striker && s.other == t.other && s.bowler == t.bowler && s.fresh == t.fresh && s.freehit == t.freehit && s.ballage == t.ballage && s.keeper == t.keeper && s.outside == t.outside && s.rev1 == t.rev1 && s.rev2 == t.rev2 && s.ending == t.ending
def sameS (s t : Inn) : Bool := eqL s.batters t.batters && (eqB s.subs t.subs && (eqL s.bowlers t.bowlers && (eqL s.before t.before && (eqL s.bowled t.bowled && eqN s t))))
theorem eqL_refl (L : Rows) : eqL L L = true := by
  unfold eqL
  rw [beq_self_eq_true, anyR_false.2 (fun j _ _ => by rw [beq_self_eq_true]; rfl)]
  rfl
theorem eqB_refl (L : Rows) : eqB L L = true := by
  unfold eqB
  rw [beq_self_eq_true, anyR_false.2 (fun j _ _ => by rw [beq_self_eq_true]; rfl)]
  rfl
theorem same_refl (s : Inn) : sameS s s = true := by
  unfold sameS eqN
  simp only [eqL_refl, eqB_refl, beq_self_eq_true, Bool.and_self]
theorem lt_same {i len : Nat} {m : Nat} (h : ((len : Int) == (m : Int)) = true) (hi : i < len) : iIn (i : Int) (m : Int) = true := by
  have := beq_iff_eq.1 h
  exact in_range (by omega)
theorem L_r14_ints {N : Nat} {L : Rows} {M : Rows} (hN : 2097152 < N) (hl : L.length ≤ 1048576) : c_r14_ints N [.rows L, .rows M] = some [.bool (eqL L M)] := by
  show t_r14_ints (std (env_r14_ints N) N) (xOf _) = _
  simp only [t_r14_ints, std, xOf, PXb, PXc, PXn, bind_c]
  unfold eqL
  cases hm : (L.length : Int) == (M.length : Int) with
  | false => rfl
  | true =>
    simp only [PXb, PXc, PXn, bind_c]
    refine bind_loop (iter_any (len := L.length) (fun i => !(atI L i 0 == atI M i 0)) [.bool false] ?_ ?_ N (by omega)) ?_
    · intro self
      simp only [PXb, PXc, PXn, bind_c, ge_len]
    · intro i self hi
      simp only [PXb, PXc, PXn, bind_c, wrap_nat (show i ≤ 1099511627776 by omega), lt_len hi, in_range hi, lt_same hm hi, atI_def]
    · cases anyR (fun i => !(atI L i 0 == atI M i 0)) L.length 0 <;> rfl
set_option maxHeartbeats 4000000 in
theorem L_r14_Same {N : Nat} {s0 s1 s2 s3 s4 s5 s6 s7 s8 s9 s10 s11 s12 s13 s15 s21 s22 s23 s25 s26 s27 : Int} {s18 s20 : Bool} {s14 s16 s17 s19 s24 : Rows} {t0 t1 t2 t3 t4 t5 t6 t7 t8 t9 t10 t11 t12 t13 t15 t21 t22 t23 t25 t26 t27 : Int} {t18 t20 : Bool} {t14 t16 t17 t19 t24 : Rows} (h : Fit s14 s16 s17 s19 s24) (hN : 2097152 < N) : c_r14_Same N [.int s0, .int s1, .int s2, .int s3, .int s4, .int s5, .int s6, .int s7, .int s8, .int s9, .int s10, .int s11, .int s12, .int s13, .rows s14, .int s15, .rows s16, .rows s17, .bool s18, .rows s19, .bool s20, .int s21, .int s22, .int s23, .rows s24, .int s25, .int s26, .int s27, .int t0, .int t1, .int t2, .int t3, .int t4, .int t5, .int t6, .int t7, .int t8, .int t9, .int t10, .int t11, .int t12, .int t13, .rows t14, .int t15, .rows t16, .rows t17, .bool t18, .rows t19, .bool t20, .int t21, .int t22, .int t23, .rows t24, .int t25, .int t26, .int t27] = some [.bool (sameS (⟨s0, s1, s2, s3, s4, s5, s6, s7, s8, s9, s10, s11, s12, s13, s14, s15, s16, s17, s18, s19, s20, s21, s22, s23, s24, s25, s26, s27⟩ : Inn) (⟨t0, t1, t2, t3, t4, t5, t6, t7, t8, t9, t10, t11, t12, t13, t14, t15, t16, t17, t18, t19, t20, t21, t22, t23, t24, t25, t26, t27⟩ : Inn))] := by
  show t_r14_Same (std (env_r14_Same N) N) (xOf _) = _
  generalize hres : (some [.bool (sameS (⟨s0, s1, s2, s3, s4, s5, s6, s7, s8, s9, s10, s11, s12, s13, s14, s15, s16, s17, s18, s19, s20, s21, s22, s23, s24, s25, s26, s27⟩ : Inn) (⟨t0, t1, t2, t3, t4, t5, t6, t7, t8, t9, t10, t11, t12, t13, t14, t15, t16, t17, t18, t19, t20, t21, t22, t23, t24, t25, t26, t27⟩ : Inn))] : Option (List PV)) = RR
  simp only [t_r14_Same, e_r14_Same_r14_ints, std, xOf, PXb, L_r14_ints hN h.bw', L_r14_ints hN h.bf, L_r14_ints hN h.bd]
  subst hres; simp only [sameS, eqN]
  rw [show eqL s14 t14 = (((s14.length : Int) == (t14.length : Int)) && !anyR (fun i => !(atI s14 i 0 == atI t14 i 0)) s14.length 0) from rfl,
    show eqB s24 t24 = (((s24.length : Int) == (t24.length : Int)) && !anyR (fun i => !(atB s24 i 0 == atB t24 i 0)) s24.length 0) from rfl]
  cases hm : (s14.length : Int) == (t14.length : Int) with
  | false => rfl
  | true =>
    cases hk : (s24.length : Int) == (t24.length : Int) with
    | false => simp only [PXb, PXc, PXn, PXm, Nat.reduceAdd, Int.reduceBEq]
    | true =>
      simp only [PXb, PXc, PXn, PXm, Nat.reduceAdd, Int.reduceBEq]
      cases eqL s16 t16 <;> try (simp only [PXb, PXc, PXn, PXm, Nat.reduceAdd, Int.reduceBEq]; done)
      cases eqL s17 t17 <;> try (simp only [PXb, PXc, PXn, PXm, Nat.reduceAdd, Int.reduceBEq]; done)
      cases eqL s19 t19 <;> try (simp only [PXb, PXc, PXn, PXm, Nat.reduceAdd, Int.reduceBEq]; done)
      simp only [PXb]
      refine bind_loop (iter_any (len := s14.length) (fun i => !(atI s14 i 0 == atI t14 i 0)) [.bool false] ?_ ?_ N (by have := h.bt; omega)) ?_
      · intro self
        simp only [PXb, PXc, PXn, bind_c, ge_len]
      · intro i self hi
        have hb := h.bt
        simp only [PXb, PXc, PXn, bind_c, wrap_nat (show i ≤ 1099511627776 by omega), lt_len hi, in_range hi, lt_same hm hi, atI_def]
      · cases anyR (fun i => !(atI s14 i 0 == atI t14 i 0)) s14.length 0 with
        | true => rfl
        | false =>
          simp only [PXb, PXc, PXn, PXm, Nat.reduceAdd, Int.reduceBEq]
          refine bind_loop (iter_any (len := s24.length) (fun i => !(atB s24 i 0 == atB t24 i 0)) [.bool false] ?_ ?_ N (by have := h.sb; omega)) ?_
          · intro self
            simp only [PXb, PXc, PXn, bind_c, ge_len]
          · intro i self hi
            have hb := h.sb
            simp only [PXb, PXc, PXn, bind_c, wrap_nat (show i ≤ 1099511627776 by omega), lt_len hi, in_range hi, lt_same hk hi, atB_def]
          · cases anyR (fun i => !(atB s24 i 0 == atB t24 i 0)) s24.length 0 with
            | true => rfl
            | false => simp only [PXb, PXc, PXn, PXm, Nat.reduceAdd, Int.reduceBEq]
def boundedS (r : Rul) : Rul := { r with name := cutS r.name 20, power := cut r.power 10 }
def fewS (s : Inn) : Inn := { s with batters := cut s.batters 13, bowlers := cut s.bowlers 13, before := cut s.before 13, bowled := cut s.bowled 13, subs := cut s.subs 13 }
theorem L_w14_bounded {N : Nat} {r1 r2 r3 r4 r5 r6 r7 r9 r10 r11 r12 : Int} {r8 : Bool} {r0 : ByteArray} {r13 : Rows}  : c_w14_bounded N [.str r0, .int r1, .int r2, .int r3, .int r4, .int r5, .int r6, .int r7, .bool r8, .int r9, .int r10, .int r11, .int r12, .rows r13] = some (boundedS (⟨r0, r1, r2, r3, r4, r5, r6, r7, r8, r9, r10, r11, r12, r13⟩ : Rul)).ls := by
  exact LL_w14_bounded N _ _ _ _ _ _ _ _ _ _ _ _ _ _
theorem L_w14_Few {N : Nat} {s0 s1 s2 s3 s4 s5 s6 s7 s8 s9 s10 s11 s12 s13 s15 s21 s22 s23 s25 s26 s27 : Int} {s18 s20 : Bool} {s14 s16 s17 s19 s24 : Rows}  : c_w14_Few N [.int s0, .int s1, .int s2, .int s3, .int s4, .int s5, .int s6, .int s7, .int s8, .int s9, .int s10, .int s11, .int s12, .int s13, .rows s14, .int s15, .rows s16, .rows s17, .bool s18, .rows s19, .bool s20, .int s21, .int s22, .int s23, .rows s24, .int s25, .int s26, .int s27] = some (fewS (⟨s0, s1, s2, s3, s4, s5, s6, s7, s8, s9, s10, s11, s12, s13, s14, s15, s16, s17, s18, s19, s20, s21, s22, s23, s24, s25, s26, s27⟩ : Inn)).ls := by
  exact LL_w14_Few N _ _ _ _ _ _ _ _ _ _ _ _ _ _ _ _ _ _ _ _ _ _ _ _ _ _ _ _
theorem cut_le (L : Rows) (c : Nat) : (cut L c).length ≤ c := by
  unfold cut
  rw [List.length_drop, List.length_take]
  cases h : iLt (c : Int) (L.length : Int) with
  | true => simp only [cond_true]; omega
  | false => simp only [iLt, decide_eq_false_iff_not] at h; simp only [cond_false]; omega
theorem few_fit (s : Inn) : (fewS s).Fit := ⟨Nat.le_trans (cut_le _ 13) (by omega), Nat.le_trans (cut_le _ 13) (by omega), Nat.le_trans (cut_le _ 13) (by omega), Nat.le_trans (cut_le _ 13) (by omega), Nat.le_trans (cut_le _ 13) (by omega)⟩
theorem few_hw (s : Inn) : (fewS s).before.length + (fewS s).bowlers.length ≤ 1000000 := by
  have h1 : (cut s.before 13).length ≤ 13 := cut_le s.before 13
  have h2 : (cut s.bowlers 13).length ≤ 13 := cut_le s.bowlers 13
  show (cut s.before 13).length + (cut s.bowlers 13).length ≤ 1000000
  omega
theorem bounded_name (r : Rul) (h : r.name.size ≤ 1048576) : (boundedS r).name.size ≤ 1048576 := Nat.le_trans (cut_size _ _) h
theorem bounded_power (r : Rul) : (boundedS r).power.length ≤ 1048576 := Nat.le_trans (cut_le _ 10) (by omega)
theorem finish_lens {s t : Inn} (r : Rul) (b : Bool) (h : Lens s t) : Lens s (finishS r t b) := ⟨h.bt, h.bd, h.sb, h.bw, h.bf⟩
theorem step_lens (r : Rul) (s : Inn) (e : Ev) : Lens s (stepS r s e).1 := by
  unfold stepS
  exact L_c _ _ _ (Lens.refl s) (L_c _ _ _ (Lens.refl s) (L_c _ _ _ (Lens.refl s) (L_c _ _ _ (Lens.refl s) (finish_lens r _ (perform_lens r s e)))))
theorem L_w14_InningsSteps {N : Nat} {r1 r2 r3 r4 r5 r6 r7 r9 r10 r11 r12 : Int} {r8 : Bool} {r0 : ByteArray} {r13 : Rows} {s0 s1 s2 s3 s4 s5 s6 s7 s8 s9 s10 s11 s12 s13 s15 s21 s22 s23 s25 s26 s27 : Int} {s18 s20 : Bool} {s14 s16 s17 s19 s24 : Rows} {e0 e1 e2 e3 e5 e6 e7 e8 e9 e10 e11 e13 e14 e15 e16 e18 : Int} {e4 e12 e17 : Bool} (ha : c_w14_awake N [] = some [.bool true]) (hN : 2097152 < N) (hs : r0.size ≤ 1048576) : c_w14_InningsSteps N [.str r0, .int r1, .int r2, .int r3, .int r4, .int r5, .int r6, .int r7, .bool r8, .int r9, .int r10, .int r11, .int r12, .rows r13, .int s0, .int s1, .int s2, .int s3, .int s4, .int s5, .int s6, .int s7, .int s8, .int s9, .int s10, .int s11, .int s12, .int s13, .rows s14, .int s15, .rows s16, .rows s17, .bool s18, .rows s19, .bool s20, .int s21, .int s22, .int s23, .rows s24, .int s25, .int s26, .int s27, .int e0, .int e1, .int e2, .int e3, .bool e4, .int e5, .int e6, .int e7, .int e8, .int e9, .int e10, .int e11, .bool e12, .int e13, .int e14, .int e15, .int e16, .bool e17, .int e18] = some [.bool true] := by
  show t_w14_InningsSteps (std (env_w14_InningsSteps N) N) (xOf _) = _
  have f := few_fit (⟨s0, s1, s2, s3, s4, s5, s6, s7, s8, s9, s10, s11, s12, s13, s14, s15, s16, s17, s18, s19, s20, s21, s22, s23, s24, s25, s26, s27⟩ : Inn)
  have w := few_hw (⟨s0, s1, s2, s3, s4, s5, s6, s7, s8, s9, s10, s11, s12, s13, s14, s15, s16, s17, s18, s19, s20, s21, s22, s23, s24, s25, s26, s27⟩ : Inn)
  have n := bounded_name (⟨r0, r1, r2, r3, r4, r5, r6, r7, r8, r9, r10, r11, r12, r13⟩ : Rul) hs
  have p := bounded_power (⟨r0, r1, r2, r3, r4, r5, r6, r7, r8, r9, r10, r11, r12, r13⟩ : Rul)
  have l1 := step_lens (boundedS (⟨r0, r1, r2, r3, r4, r5, r6, r7, r8, r9, r10, r11, r12, r13⟩ : Rul)) (fewS (⟨s0, s1, s2, s3, s4, s5, s6, s7, s8, s9, s10, s11, s12, s13, s14, s15, s16, s17, s18, s19, s20, s21, s22, s23, s24, s25, s26, s27⟩ : Inn)) (⟨e0, e1, e2, e3, e4, e5, e6, ⟨e7, e8, e9, e10, e11, e12, e13, e14, e15, e16, e17, e18⟩⟩ : Ev)
  have f1 := fit_of l1 f (by omega)
  simp only [t_w14_InningsSteps, e_w14_InningsSteps_w14_awake, e_w14_InningsSteps_w14_bounded, e_w14_InningsSteps_w14_Few, e_w14_InningsSteps_innings_Step, e_w14_InningsSteps_r14_Step, e_w14_InningsSteps_r14_Same, std, xOf, PXb, PXc, PXn, PXm, Nat.reduceAdd, Int.reduceBEq, ha, L_w14_bounded, L_w14_Few, Rul.ls, L_innings_Step f w hN n p, L_r14_Step f w hN n p, L_r14_Same f1 hN, same_refl]
end Go.Px
end
