/-
Px: plain laws: loops, lists of numbers, rows.
-/
import Derived.Test.YtopmcbahdgfleaaGreatPxTab2
namespace Go.Px
set_option linter.unusedVariables false
set_option linter.unusedSimpArgs false

/-- What a loop comes to: an invariant, a measure, and what a round gives. -/
theorem iter_of {F : (List SLeaf → Option (List PV)) → List PV → Option (List PV)} {I : List PV → Prop} {m : List PV → Nat} {res : List PV → List PV}
    (step : ∀ (c : List PV) (self : List SLeaf → Option (List PV)), I c → (∀ ls, I (ls.map Leaf.pv) → m (ls.map Leaf.pv) < m c → self ls = some (res (ls.map Leaf.pv))) → F self c = some (res c)) :
    ∀ (n : Nat) (c : List PV), I c → m c < n → iter F n c = some (res c)
  | 0, c, _, h => by omega
  | n + 1, c, hi, h => step c _ hi (fun ls h1 h2 => iter_of step n _ h1 (by omega))

/-- Rows of one number, one bool. -/
def rI (xs : List Int) : Rows := xs.map fun n => [PV.int n]
def rB (xs : List Bool) : Rows := xs.map fun n => [PV.bool n]

theorem rI_len (xs : List Int) : (rI xs).length = xs.length := by simp [rI]
theorem rB_len (xs : List Bool) : (rB xs).length = xs.length := by simp [rB]
theorem rI_at (xs : List Int) (i : Nat) : pvI (pvAt (rI xs) i 0) = xs.getD i 0 := by
  unfold pvAt rowAt cellAt rI
  simp only [List.getD_eq_getElem?_getD, List.getElem?_map]
  cases xs[i]? <;> rfl
theorem rB_at (xs : List Bool) (i : Nat) : pvB (pvAt (rB xs) i 0) = xs.getD i false := by
  unfold pvAt rowAt cellAt rB
  simp only [List.getD_eq_getElem?_getD, List.getElem?_map]
  cases xs[i]? <;> rfl

theorem wrap64 {n : Int} (h1 : -9223372036854775808 ≤ n) (h2 : n ≤ 9223372036854775807) : IntKind.i64.wrap n = n := by
  unfold IntKind.wrap
  simp [IntKind.signed, IntKind.bits]
  omega

theorem bind_c (b : Bool) (x y : List PV) (k : List PV → Option (List PV)) : (cond b (some x) (some y) : Option (List PV)).bind k = k (cond b x y) := by cases b <;> rfl
theorem pvB_c (b : Bool) (x y : List PV) (j : Nat) : pvB (cellAt (cond b x y) j) = cond b (pvB (cellAt x j)) (pvB (cellAt y j)) := by cases b <;> rfl
theorem pvI_c (b : Bool) (x y : List PV) (j : Nat) : pvI (cellAt (cond b x y) j) = cond b (pvI (cellAt x j)) (pvI (cellAt y j)) := by cases b <;> rfl
theorem pvS_c (b : Bool) (x y : List PV) (j : Nat) : pvS (cellAt (cond b x y) j) = cond b (pvS (cellAt x j)) (pvS (cellAt y j)) := by cases b <;> rfl
theorem pvL_c (b : Bool) (x y : List PV) (j : Nat) : pvL (cellAt (cond b x y) j) = cond b (pvL (cellAt x j)) (pvL (cellAt y j)) := by cases b <;> rfl
theorem c_and (b p : Bool) : cond b p false = (b && p) := by cases b <;> rfl
theorem c_or (b p : Bool) : cond b true p = (b || p) := by cases b <;> rfl
theorem c_andn (b p : Bool) : cond b false p = (!b && p) := by cases b <;> rfl
theorem c_orn (b p : Bool) : cond b p true = (!b || p) := by cases b <;> rfl
theorem c_some (b : Bool) (x y : List PV) : cond b (some x) (some y) = some (cond b x y) := by cases b <;> rfl
theorem c_same {α : Type} (b : Bool) (x : α) : cond b x x = x := by cases b <;> rfl
theorem c_bool (b p q : Bool) : cond b [PV.bool p] [PV.bool q] = [PV.bool (cond b p q)] := by cases b <;> rfl
theorem cell_zero (p : PV) (r : List PV) : cellAt (p :: r) 0 = p := rfl
theorem cell_succ (p : PV) (r : List PV) (j : Nat) : cellAt (p :: r) (j + 1) = cellAt r j := by simp [cellAt]
theorem pv_int (i : Int) : Leaf.pv (.int i : SLeaf) = .int i := rfl
theorem pv_bool (i : Bool) : Leaf.pv (.bool i : SLeaf) = .bool i := rfl
theorem pv_str (i : ByteArray) : Leaf.pv (.str i : SLeaf) = .str i := rfl
theorem pv_rows (i : Rows) : Leaf.pv (.rows i : SLeaf) = .rows i := rfl

/-- A loop over so many rounds, with a way out of the midst. -/
def loopR {St : Type} (body : Nat → St → List PV ⊕ St) (fin : St → List PV) : Nat → Nat → St → List PV
  | 0, _, s => fin s
  | k + 1, i, s => match body i s with
    | .inl r => r
    | .inr s' => loopR body fin k (i + 1) s'

theorem iter_loop {St : Type} {F : (List SLeaf → Option (List PV)) → List PV → Option (List PV)} {len : Nat} {enc : Nat → St → List SLeaf} {body : Nat → St → List PV ⊕ St} {fin : St → List PV} (I : Nat → St → Prop)
    (h0 : ∀ s self, I len s → F self ((enc len s).map Leaf.pv) = some (fin s))
    (h1 : ∀ i s self, i < len → I i s → F self ((enc i s).map Leaf.pv) = (match body i s with | .inl r => some r | .inr s' => self (enc (i + 1) s')) ∧ ∀ s', body i s = .inr s' → I (i + 1) s') :
    ∀ (k i : Nat) (s : St) (n : Nat), i + k = len → k < n → I i s → iter F n ((enc i s).map Leaf.pv) = some (loopR body fin k i s)
  | 0, i, s, n, hk, hn, hi => by
    obtain ⟨n, rfl⟩ : ∃ m, n = m + 1 := ⟨n - 1, by omega⟩
    obtain rfl : i = len := by omega
    exact h0 s _ hi
  | k + 1, i, s, n, hk, hn, hi => by
    obtain ⟨n, rfl⟩ : ∃ m, n = m + 1 := ⟨n - 1, by omega⟩
    obtain ⟨h2, h3⟩ := h1 i s (fun ls => iter F n (ls.map Leaf.pv)) (by omega) hi
    show F _ _ = _
    rw [h2]
    simp only [loopR]
    cases hb : body i s with
    | inl r => rfl
    | inr s' => exact iter_loop I h0 h1 k (i + 1) s' n (by omega) (by omega) (h3 s' hb)

/-- Two loops that do the same. -/
theorem loopR_congr {St : Type} {body body' : Nat → St → List PV ⊕ St} {fin fin' : St → List PV} (hf : ∀ s, fin s = fin' s) : ∀ (k i : Nat) (s : St), (∀ j s, i ≤ j → j < i + k → body j s = body' j s) → loopR body fin k i s = loopR body' fin' k i s
  | 0, i, s, _ => hf s
  | k + 1, i, s, h => by
    simp only [loopR]
    rw [h i s (Nat.le_refl _) (by omega)]
    cases body' i s with
    | inl r => rfl
    | inr s' => exact loopR_congr hf k (i + 1) s' (fun j s h1 h2 => h j s (by omega) (by omega))

theorem bind_loop {F : (List SLeaf → Option (List PV)) → List PV → Option (List PV)} {n : Nat} {c r : List PV} {k : List PV → Option (List PV)} {g : Option (List PV)} (h : iter F n c = some r) (hk : k r = g) : (iter F n c).bind k = g := by
  rw [h]; exact hk

/-- The answer of a search through places. -/
def findR (ans : Nat → Option (List PV)) : Nat → Nat → Option (List PV)
  | 0, _ => none
  | k + 1, i => match ans i with
    | some r => some r
    | none => findR ans k (i + 1)

def found : Option (List PV) → List PV
  | some r => .int 0 :: r
  | none => [.int 1]

/-- A loop that searches. -/
theorem iter_find {F : (List SLeaf → Option (List PV)) → List PV → Option (List PV)} {len : Nat} (ans : Nat → Option (List PV))
    (h0 : ∀ self, F self [.int (len : Int)] = some [.int 1]) (h1 : ∀ i self, i < len → F self [.int (i : Int)] = match ans i with | some r => some (.int 0 :: r) | none => self [.int ((i : Int) + 1)]) :
    ∀ (k i n : Nat), i + k = len → k < n → iter F n [.int (i : Int)] = some (found (findR ans k i))
  | 0, i, n, hk, hn => by
    obtain ⟨n, rfl⟩ : ∃ m, n = m + 1 := ⟨n - 1, by omega⟩
    obtain rfl : i = len := by omega
    exact h0 _
  | k + 1, i, n, hk, hn => by
    obtain ⟨n, rfl⟩ : ∃ m, n = m + 1 := ⟨n - 1, by omega⟩
    have h2 := h1 i (fun ls => iter F n (ls.map Leaf.pv)) (by omega)
    show F _ _ = _
    rw [h2]
    simp only [findR]
    cases ha : ans i with
    | some r => rfl
    | none =>
      have := iter_find ans h0 h1 k (i + 1) n (by omega) (by omega)
      show iter F n [.int ((i : Int) + 1)] = _
      rw [show ((i : Int) + 1) = (((i + 1 : Nat)) : Int) by omega]
      exact this

theorem findR_congr {ans ans' : Nat → Option (List PV)} : ∀ (k i : Nat), (∀ j, i ≤ j → j < i + k → ans j = ans' j) → findR ans k i = findR ans' k i
  | 0, i, _ => rfl
  | k + 1, i, h => by
    simp only [findR]
    rw [h i (Nat.le_refl _) (by omega)]
    cases ans' i with
    | some r => rfl
    | none => exact findR_congr k (i + 1) (fun j h1 h2 => h j (by omega) (by omega))

/-- A search whose one answer is a refusal. -/
def anyR (bad : Nat → Bool) (k i : Nat) : Bool := (List.range' i k).any bad
theorem anyR_zero (bad : Nat → Bool) (i : Nat) : anyR bad 0 i = false := rfl
theorem anyR_succ (bad : Nat → Bool) (k i : Nat) : anyR bad (k + 1) i = (bad i || anyR bad k (i + 1)) := by simp only [anyR, List.range'_succ, List.any_cons]
theorem findR_any (bad : Nat → Bool) (r : List PV) : ∀ (k i : Nat), findR (fun j => cond (bad j) (some r) none) k i = cond (anyR bad k i) (some r) none
  | 0, i => rfl
  | k + 1, i => by
    rw [anyR_succ]
    simp only [findR]
    cases hb : bad i with
    | true => rfl
    | false => rw [Bool.false_or]; exact findR_any bad r k (i + 1)
theorem anyR_congr {f g : Nat → Bool} : ∀ (k i : Nat), (∀ j, i ≤ j → j < i + k → f j = g j) → anyR f k i = anyR g k i
  | 0, i, _ => rfl
  | k + 1, i, h => by rw [anyR_succ, anyR_succ, h i (Nat.le_refl _) (by omega), anyR_congr k (i + 1) (fun j h1 h2 => h j (by omega) (by omega))]
theorem anyR_false {f : Nat → Bool} {k i : Nat} : anyR f k i = false ↔ ∀ j, i ≤ j → j < i + k → f j = false := by
  induction k generalizing i with
  | zero => simp [anyR_zero]; intro j h1 h2; omega
  | succ k ih =>
    rw [anyR_succ, Bool.or_eq_false_iff, ih]
    constructor
    · intro ⟨h1, h2⟩ j h3 h4
      rcases Nat.lt_or_ge i j with h | h
      · exact h2 j h (by omega)
      · obtain rfl : j = i := by omega
        exact h1
    · intro h; exact ⟨h i (Nat.le_refl _) (by omega), fun j h1 h2 => h j (by omega) (by omega)⟩

/-- A search loop whose one answer is a refusal. -/
theorem iter_any {F : (List SLeaf → Option (List PV)) → List PV → Option (List PV)} {len : Nat} (bad : Nat → Bool) (r : List PV)
    (h0 : ∀ self, F self [.int (len : Int)] = some [.int 1]) (h1 : ∀ i self, i < len → F self [.int (i : Int)] = cond (bad i) (some (.int 0 :: r)) (self [.int ((i : Int) + 1)])) (n : Nat) (hn : len < n) :
    iter F n [.int 0] = some (cond (anyR bad len 0) (.int 0 :: r) [.int 1]) := by
  have := iter_find (F := F) (len := len) (fun j => cond (bad j) (some r) none) h0 (fun i self hi => by rw [h1 i self hi]; cases bad i <;> rfl) len 0 n (by omega) hn
  rw [show (0 : Int) = ((0 : Nat) : Int) from rfl, this, findR_any]
  cases anyR bad len 0 <;> rfl

theorem wrap_nat {i : Nat} (h : i ≤ 1099511627776) : IntKind.i64.wrap ((i : Int) + 1) = (i : Int) + 1 := wrap64 (by omega) (by omega)
theorem in_range {i len : Nat} (h : i < len) : iIn (i : Int) (len : Int) = true := by simp [iIn]; omega
theorem lt_len {i len : Nat} (h : i < len) : iLt (i : Int) (len : Int) = true := by simp [iLt]; omega
theorem ge_len (len : Nat) : iLt (len : Int) (len : Int) = false := by simp [iLt]

/-- A search loop whose state is told by its place. -/
theorem iter_enc {F : (List SLeaf → Option (List PV)) → List PV → Option (List PV)} {len : Nat} (enc : Nat → List SLeaf) (bad : Nat → Bool) (r fin : List PV)
    (h0 : ∀ self, F self ((enc len).map Leaf.pv) = some fin) (h1 : ∀ i self, i < len → F self ((enc i).map Leaf.pv) = cond (bad i) (some r) (self (enc (i + 1)))) (n : Nat) (hn : len < n) :
    iter F n ((enc 0).map Leaf.pv) = some (cond (anyR bad len 0) r fin) := by
  have main : ∀ (k i n : Nat), i + k = len → k < n → iter F n ((enc i).map Leaf.pv) = some (cond (anyR bad k i) r fin) := by
    intro k
    induction k with
    | zero =>
      intro i n hk hn
      obtain ⟨n, rfl⟩ : ∃ m, n = m + 1 := ⟨n - 1, by omega⟩
      obtain rfl : i = len := by omega
      exact h0 _
    | succ k ih =>
      intro i n hk hn
      obtain ⟨n, rfl⟩ : ∃ m, n = m + 1 := ⟨n - 1, by omega⟩
      show F _ _ = _
      rw [h1 i _ (by omega), anyR_succ]
      cases bad i with
      | true => rfl
      | false => exact ih (i + 1) n (by omega) (by omega)
  exact main len 0 n (by omega) hn
theorem anyR_no (k i : Nat) : anyR (fun _ => false) k i = false := anyR_false.2 fun _ _ _ => rfl
/-- A loop that goes all the way. -/
theorem iter_all {F : (List SLeaf → Option (List PV)) → List PV → Option (List PV)} {len : Nat} (enc : Nat → List SLeaf) (fin : List PV)
    (h0 : ∀ self, F self ((enc len).map Leaf.pv) = some fin) (h1 : ∀ i self, i < len → F self ((enc i).map Leaf.pv) = self (enc (i + 1))) (n : Nat) (hn : len < n) :
    iter F n ((enc 0).map Leaf.pv) = some fin := by
  have := iter_enc (F := F) enc (fun _ => false) [] fin h0 h1 n hn
  rw [anyR_no] at this
  exact this

/-- The place of what is sought. -/
def seek (p : Nat → Bool) : Nat → Option (List PV) := fun j => cond (p j) (some [.int (j : Int)]) none
def idxR (p : Nat → Bool) (k : Nat) : Int := match findR (seek p) k 0 with
  | some r => pvI (cellAt r 0)
  | none => -1
theorem seek_nonneg (p : Nat → Bool) : ∀ k i, iLe 0 (match findR (seek p) k i with | some r => pvI (cellAt r 0) | none => -1) = anyR p k i
  | 0, i => rfl
  | k + 1, i => by
    rw [anyR_succ]
    simp only [findR, seek]
    cases h : p i with
    | true => simp only [cond_true, cell_zero, Bool.true_or, pvI, iLe]; simp
    | false => rw [Bool.false_or]; exact seek_nonneg p k (i + 1)
theorem idx_nonneg (p : Nat → Bool) (k : Nat) : iLe 0 (idxR p k) = anyR p k 0 := seek_nonneg p k 0

theorem rg_ok {i len : Nat} (h : i ≤ len) : iRg 0 (i : Int) (len : Int) = true := by simp [iRg]; omega
theorem sm_ok {n b : Nat} (h : n ≤ 4194304) (hb : b ≤ 4096) : iSm (n : Int) b = true := by
  have : n * b ≤ 4194304 * 4096 := Nat.mul_le_mul h hb
  simp only [iSm, decide_eq_true_eq]
  refine ⟨by omega, by omega, ?_, by omega⟩
  rw [← Int.natCast_mul]; omega
def atI (L : Rows) (i j : Nat) : Int := pvI (pvAt L i j)
theorem atI_def (L : Rows) (i j : Nat) : pvI (pvAt L i j) = atI L i j := rfl
theorem atI_take {L : Rows} {i j k : Nat} (h : j < i) : atI (L.take i) j k = atI L j k := by
  unfold atI pvAt rowAt
  simp only [List.getD_eq_getElem?_getD]
  rw [List.getElem?_take_of_lt h]
theorem lsub_take (L : Rows) (i : Nat) : (L.take (i : Int).toNat).drop (0 : Int).toNat = L.take i := by simp

/-- How many of the first places are such. -/
def cntR (p : Nat → Bool) : Nat → Int
  | 0 => 0
  | i + 1 => cond (p i) (cntR p i + 1) (cntR p i)
theorem cnt_le (p : Nat → Bool) : ∀ i, 0 ≤ cntR p i ∧ cntR p i ≤ (i : Int)
  | 0 => by simp [cntR]
  | i + 1 => by
    have := cnt_le p i
    unfold cntR
    cases p i <;> simp only [cond_true, cond_false] <;> omega
theorem cnt_wrap (p : Nat → Bool) {i : Nat} (h : i ≤ 1099511627776) : IntKind.i64.wrap (cntR p i + 1) = cntR p i + 1 := by
  have := cnt_le p i
  exact wrap64 (by omega) (by omega)
theorem cnt_congr {p q : Nat → Bool} : ∀ i, (∀ j, j < i → p j = q j) → cntR p i = cntR q i
  | 0, _ => rfl
  | i + 1, h => by
    unfold cntR
    rw [h i (by omega), cnt_congr i (fun j hj => h j (by omega))]
theorem cnt_mono {p q : Nat → Bool} : ∀ i, (∀ j, j < i → p j = true → q j = true) → cntR p i ≤ cntR q i
  | 0, _ => by simp [cntR]
  | i + 1, h => by
    have h1 := cnt_mono i (fun j hj => h j (by omega))
    have h2 := h i (by omega)
    unfold cntR
    cases hp : p i with
    | true => rw [h2 hp]; simp only [cond_true]; omega
    | false => cases q i <;> simp only [cond_true, cond_false] <;> omega
theorem cnt_eq {p q : Nat → Bool} : ∀ i, (∀ j, j < i → p j = true → q j = true) → cntR p i = cntR q i → ∀ j, j < i → p j = q j
  | 0, _, _ => fun j hj => by omega
  | i + 1, h, he => by
    have h1 := cnt_mono i (fun j hj => h j (by omega))
    have h2 := h i (by omega)
    unfold cntR at he
    intro j hj
    have hpq : p i = q i ∧ cntR p i = cntR q i := by
      cases hp : p i with
      | true =>
        have hq := h2 hp
        rw [hp, hq] at he; simp only [cond_true] at he
        exact ⟨hq.symm, by omega⟩
      | false =>
        cases hq : q i with
        | true => rw [hp, hq] at he; simp only [cond_true, cond_false] at he; omega
        | false => rw [hp, hq] at he; simp only [cond_false] at he; exact ⟨rfl, he⟩
    rcases Nat.lt_or_ge j i with hji | hji
    · exact cnt_eq i (fun j hj => h j (by omega)) hpq.2 j hji
    · obtain rfl : j = i := by omega
      exact hpq.1
theorem cnt_or {p q : Nat → Bool} : ∀ i, (∀ j, j < i → p j = true → q j = false) → cntR (fun j => p j || q j) i = cntR p i + cntR q i
  | 0, _ => rfl
  | i + 1, h => by
    have h1 := cnt_or i (fun j hj => h j (by omega))
    have h2 := h i (by omega)
    unfold cntR
    rw [h1]
    cases hp : p i with
    | true => rw [h2 hp]; simp only [Bool.true_or, cond_true, cond_false]; omega
    | false => cases q i <;> simp only [Bool.false_or, cond_true, cond_false] <;> omega
theorem cnt_at (s : Int) : ∀ (i : Nat), 0 ≤ s → cntR (fun j => s == (j : Int) + 1) i = cond (!(s == 0) && iLe s (i : Int)) 1 0
  | 0, hs => by
    have : (!(s == 0) && iLe s ((0 : Nat) : Int)) = false := by
      rw [Bool.and_eq_false_iff]
      by_cases h : s = 0
      · subst h; exact .inl rfl
      · exact .inr (by simp only [iLe, decide_eq_false_iff_not]; omega)
    rw [this]; rfl
  | i + 1, hs => by
    unfold cntR
    rw [cnt_at s i hs]
    by_cases h : s = (i : Int) + 1
    · have e1 : (s == (i : Int) + 1) = true := by simp [h]
      have e2 : iLe s (i : Int) = false := by simp only [iLe, decide_eq_false_iff_not]; omega
      have e3 : iLe s ((i + 1 : Nat) : Int) = true := by simp only [iLe, decide_eq_true_eq]; omega
      have e4 : (s == 0) = false := by simp only [beq_eq_false_iff_ne]; omega
      rw [e1, e2, e3, e4]; rfl
    · have e1 : (s == (i : Int) + 1) = false := by simp [h]
      have e2 : iLe s (i : Int) = iLe s ((i + 1 : Nat) : Int) := by
        unfold iLe
        rw [Bool.eq_iff_iff, decide_eq_true_eq, decide_eq_true_eq]; omega
      rw [e1, e2]; rfl
theorem anyR_last (f : Nat → Bool) : ∀ (k i : Nat), anyR f (k + 1) i = (anyR f k i || f (i + k))
  | 0, i => by rw [anyR_succ, anyR_zero, anyR_zero]; simp
  | k + 1, i => by rw [anyR_succ, anyR_last f k (i + 1), anyR_succ f k i, Bool.or_assoc]; congr 3; omega
theorem anyR_shift (f : Nat → Bool) : ∀ (k i : Nat), anyR f k (i + 1) = anyR (fun j => f (j + 1)) k i
  | 0, i => rfl
  | k + 1, i => by rw [anyR_succ, anyR_succ, anyR_shift f k (i + 1)]
/-- Some row is such. -/
def anyL (p : Int → Bool) (L : Rows) : Bool := anyR (fun i => p (atI L i 0)) L.length 0
theorem anyL_any (p : Int → Bool) : ∀ (L : Rows), anyL p L = L.any fun r => p (pvI (cellAt r 0))
  | [] => rfl
  | r :: L => by
    have ih := anyL_any p L
    unfold anyL at ih ⊢
    rw [List.length_cons, anyR_succ, anyR_shift, List.any_cons, ← ih]
    rfl
theorem anyL_app (p : Int → Bool) (a b : Rows) : anyL p (a ++ b) = (anyL p a || anyL p b) := by
  rw [anyL_any, anyL_any, anyL_any, List.any_append]

end Go.Px
