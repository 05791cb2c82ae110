/- Part 7. -/
import Derived.Test.YtapipgdcgmmkaaaGreatDoorPart06
set_option linter.unusedVariables false
set_option linter.unusedSimpArgs false
section
namespace Go.Px
def rI (xs : List Int) : Rows := xs.map fun n => [PV.int n]
def rB (xs : List Bool) : Rows := xs.map fun n => [PV.bool n]
theorem IU {n : Int} (h1 : -9223372036854775808 ≤ n) (h2 : n ≤ 9223372036854775807) : IntKind.i64.wrap n = n := by
 unfold IntKind.wrap
 simp [IntKind.signed, IntKind.bits]
 omega
theorem AG (b : Bool) (x y : List PV) (k : List PV → Option (List PV)) : (cond b (some x) (some y) : Option (List PV)).bind k = k (cond b x y) := by cases b <;> rfl
theorem gS (b : Bool) (x y : List PV) (j : Nat) : pvB (AF (cond b x y) j) = cond b (pvB (AF x j)) (pvB (AF y j)) := by cases b <;> rfl
theorem gJ (b : Bool) (x y : List PV) (j : Nat) : pvI (AF (cond b x y) j) = cond b (pvI (AF x j)) (pvI (AF y j)) := by cases b <;> rfl
theorem gG (b : Bool) (x y : List PV) (j : Nat) : pvS (AF (cond b x y) j) = cond b (pvS (AF x j)) (pvS (AF y j)) := by cases b <;> rfl
theorem gR (b : Bool) (x y : List PV) (j : Nat) : pvL (AF (cond b x y) j) = cond b (pvL (AF x j)) (pvL (AF y j)) := by cases b <;> rfl
theorem WA (b p : Bool) : cond b p false = (b && p) := by cases b <;> rfl
theorem gU (b p : Bool) : cond b true p = (b || p) := by cases b <;> rfl
theorem f8 (b p : Bool) : cond b false p = (!b && p) := by cases b <;> rfl
theorem gI (b p : Bool) : cond b p true = (!b || p) := by cases b <;> rfl
theorem fT (b : Bool) (x y : List PV) : cond b (some x) (some y) = some (cond b x y) := by cases b <;> rfl
theorem fZ {α : Type} (b : Bool) (x : α) : cond b x x = x := by cases b <;> rfl
theorem fm (b p q : Bool) : cond b [PV.bool p] [PV.bool q] = [PV.bool (cond b p q)] := by cases b <;> rfl
theorem Xm (p : PV) (r : List PV) : AF (p :: r) 0 = p := rfl
theorem dB (p : PV) (r : List PV) (j : Nat) : AF (p :: r) (j + 1) = AF r j := by simp [AF]
theorem Ae {F : (List Ab → Option (List PV)) → List PV → Option (List PV)} {n : Nat} {c r : List PV} {k : List PV → Option (List PV)} {g : Option (List PV)} (h : IG F n c = some r) (hk : k r = g) : (IG F n c).bind k = g := by
 rw [h]; exact hk
def Bj (ans : Nat → Option (List PV)) : Nat → Nat → Option (List PV)
 | 0, _ => none
 | k + 1, i => match ans i with
  | some r => some r
  | none => Bj ans k (i + 1)
def Tm : Option (List PV) → List PV
 | some r => .int 0 :: r
 | none => [.int 1]
theorem CO {F : (List Ab → Option (List PV)) → List PV → Option (List PV)} {len : Nat} (ans : Nat → Option (List PV))
    (h0 : ∀ self, F self [.int (len : Int)] = some [.int 1]) (h1 : ∀ i self, i < len → F self [.int (i : Int)] = match ans i with | some r => some (.int 0 :: r) | none => self [.int ((i : Int) + 1)]) :
    ∀ (k i n : Nat), i + k = len → k < n → IG F n [.int (i : Int)] = some (Tm (Bj ans k i))
  | 0, i, n, hk, hn => by
    obtain ⟨n, rfl⟩ : ∃ m, n = m + 1 := ⟨n - 1, by omega⟩
    obtain rfl : i = len := by omega
    exact h0 _
  | k + 1, i, n, hk, hn => by
    obtain ⟨n, rfl⟩ : ∃ m, n = m + 1 := ⟨n - 1, by omega⟩
    have h2 := h1 i (fun ls => IG F n (ls.map Leaf.pv)) (by omega)
    show F _ _ = _
    rw [h2]
    simp only [Bj]
    cases ha : ans i with
    | some r => rfl
    | none =>
      have := CO ans h0 h1 k (i + 1) n (by omega) (by omega)
      show IG F n [.int ((i : Int) + 1)] = _
      rw [show ((i : Int) + 1) = (((i + 1 : Nat)) : Int) by omega]
      exact this
def A9 (bad : Nat → Bool) (k i : Nat) : Bool := (List.range' i k).any bad
theorem HI (bad : Nat → Bool) (i : Nat) : A9 bad 0 i = false := rfl
theorem Bd (bad : Nat → Bool) (k i : Nat) : A9 bad (k + 1) i = (bad i || A9 bad k (i + 1)) := by simp only [A9, List.range'_succ, List.any_cons]
theorem Xn (bad : Nat → Bool) (r : List PV) : ∀ (k i : Nat), Bj (fun j => cond (bad j) (some r) none) k i = cond (A9 bad k i) (some r) none
 | 0, i => rfl
 | k + 1, i => by
  rw [Bd]
  simp only [Bj]
  cases hb : bad i with
  | true => rfl
  | false => rw [Bool.false_or]; exact Xn bad r k (i + 1)
theorem WB {f g : Nat → Bool} : ∀ (k i : Nat), (∀ j, i ≤ j → j < i + k → f j = g j) → A9 f k i = A9 g k i
 | 0, i, _ => rfl
 | k + 1, i, h => by rw [Bd, Bd, h i (Nat.le_refl _) (by omega), WB k (i + 1) (fun j h1 h2 => h j (by omega) (by omega))]
theorem En {f : Nat → Bool} {k i : Nat} : A9 f k i = false ↔ ∀ j, i ≤ j → j < i + k → f j = false := by
 induction k generalizing i with
 | zero => simp [HI]; intro j h1 h2; omega
 | succ k ih =>
  rw [Bd, Bool.or_eq_false_iff, ih]
  constructor
  ·intro ⟨h1, h2⟩ j h3 h4
   rcases Nat.lt_or_ge i j with h | h
   ·exact h2 j h (by omega)
   ·obtain rfl : j = i := by omega
    exact h1
  ·intro h; exact ⟨h i (Nat.le_refl _) (by omega), fun j h1 h2 => h j (by omega) (by omega)⟩
theorem E8 {F : (List Ab → Option (List PV)) → List PV → Option (List PV)} {len : Nat} (bad : Nat → Bool) (r : List PV)
    (h0 : ∀ self, F self [.int (len : Int)] = some [.int 1]) (h1 : ∀ i self, i < len → F self [.int (i : Int)] = cond (bad i) (some (.int 0 :: r)) (self [.int ((i : Int) + 1)])) (n : Nat) (hn : len < n) :
    IG F n [.int 0] = some (cond (A9 bad len 0) (.int 0 :: r) [.int 1]) := by
  have := CO (F := F) (len := len) (fun j => cond (bad j) (some r) none) h0 (fun i self hi => by rw [h1 i self hi]; cases bad i <;> rfl) len 0 n (by omega) hn
  rw [show (0 : Int) = ((0 : Nat) : Int) from rfl, this, Xn]
  cases A9 bad len 0 <;> rfl
theorem Am {i : Nat} (h : i ≤ 1099511627776) : IntKind.i64.wrap ((i : Int) + 1) = (i : Int) + 1 := IU (by omega) (by omega)
theorem Al {i len : Nat} (h : i < len) : iIn (i : Int) (len : Int) = true := by simp [iIn]; omega
theorem BF {i len : Nat} (h : i < len) : iLt (i : Int) (len : Int) = true := by simp [iLt]; omega
theorem Bh (len : Nat) : iLt (len : Int) (len : Int) = false := by simp [iLt]
theorem YY {F : (List Ab → Option (List PV)) → List PV → Option (List PV)} {len : Nat} (enc : Nat → List Ab) (bad : Nat → Bool) (r fin : List PV)
    (h0 : ∀ self, F self ((enc len).map Leaf.pv) = some fin) (h1 : ∀ i self, i < len → F self ((enc i).map Leaf.pv) = cond (bad i) (some r) (self (enc (i + 1)))) (n : Nat) (hn : len < n) :
    IG F n ((enc 0).map Leaf.pv) = some (cond (A9 bad len 0) r fin) := by
  have main : ∀ (k i n : Nat), i + k = len → k < n → IG F n ((enc i).map Leaf.pv) = some (cond (A9 bad k i) r fin) := by
    intro k
    induction k with
    | zero =>
      intro i n hk hn
      obtain ⟨n, rfl⟩ : ∃ m, n = m + 1 := ⟨n - 1, by omega⟩
      obtain rfl : i = len := by omega
      exact h0 _
    | succ k ih =>
      intro i n hk hn
      obtain ⟨n, rfl⟩ : ∃ m, n = m + 1 := ⟨n - 1, by omega⟩
      show F _ _ = _
      rw [h1 i _ (by omega), Bd]
      cases bad i with
      | true => rfl
      | false => exact ih (i + 1) n (by omega) (by omega)
  exact main len 0 n (by omega) hn
theorem eU (k i : Nat) : A9 (fun _ => false) k i = false := En.2 fun _ _ _ => rfl
theorem HE {F : (List Ab → Option (List PV)) → List PV → Option (List PV)} {len : Nat} (enc : Nat → List Ab) (fin : List PV)
    (h0 : ∀ self, F self ((enc len).map Leaf.pv) = some fin) (h1 : ∀ i self, i < len → F self ((enc i).map Leaf.pv) = self (enc (i + 1))) (n : Nat) (hn : len < n) :
    IG F n ((enc 0).map Leaf.pv) = some fin := by
  have := YY (F := F) enc (fun _ => false) [] fin h0 h1 n hn
  rw [eU] at this
  exact this
def E6 (p : Nat → Bool) : Nat → Option (List PV) := fun j => cond (p j) (some [.int (j : Int)]) none
def Mx (p : Nat → Bool) (k : Nat) : Int := match Bj (E6 p) k 0 with
 | some r => pvI (AF r 0)
 | none => -1
theorem Uc (p : Nat → Bool) : ∀ k i, iLe 0 (match Bj (E6 p) k i with | some r => pvI (AF r 0) | none => -1) = A9 p k i
 | 0, i => rfl
 | k + 1, i => by
  rw [Bd]
  simp only [Bj, E6]
  cases h : p i with
  | true => simp only [cond_true, Xm, Bool.true_or, pvI, iLe]; simp
  | false => rw [Bool.false_or]; exact Uc p k (i + 1)
theorem Hw (p : Nat → Bool) (k : Nat) : iLe 0 (Mx p k) = A9 p k 0 := Uc p k 0
theorem gK {i len : Nat} (h : i ≤ len) : iRg 0 (i : Int) (len : Int) = true := by simp [iRg]; omega
theorem KZ {n b : Nat} (h : n ≤ 4194304) (hb : b ≤ 4096) : iSm (n : Int) b = true := by
 have : n * b ≤ 4194304 * 4096 := Nat.mul_le_mul h hb
 simp only [iSm, decide_eq_true_eq]
 refine ⟨by omega, by omega, ?_, by omega⟩
 rw [← Int.natCast_mul]; omega
def atI (L : Rows) (i j : Nat) : Int := pvI (AJ L i j)
theorem Cf (L : Rows) (i j : Nat) : pvI (AJ L i j) = atI L i j := rfl
theorem eA {L : Rows} {i j k : Nat} (h : j < i) : atI (L.take i) j k = atI L j k := by
 unfold atI AJ BB
 simp only [List.getD_eq_getElem?_getD]
 rw [List.getElem?_take_of_lt h]
def B2 (p : Nat → Bool) : Nat → Int
 | 0 => 0
 | i + 1 => cond (p i) (B2 p i + 1) (B2 p i)
theorem cp (p : Nat → Bool) : ∀ i, 0 ≤ B2 p i ∧ B2 p i ≤ (i : Int)
 | 0 => by simp [B2]
 | i + 1 => by
  have := cp p i
  unfold B2
  cases p i <;> simp only [cond_true, cond_false] <;> omega
theorem Yz (p : Nat → Bool) {i : Nat} (h : i ≤ 1099511627776) : IntKind.i64.wrap (B2 p i + 1) = B2 p i + 1 := by
 have := cp p i
 exact IU (by omega) (by omega)
theorem Xu {p q : Nat → Bool} : ∀ i, (∀ j, j < i → p j = q j) → B2 p i = B2 q i
 | 0, _ => rfl
 | i + 1, h => by
  unfold B2
  rw [h i (by omega), Xu i (fun j hj => h j (by omega))]
theorem Y7 {p q : Nat → Bool} : ∀ i, (∀ j, j < i → p j = true → q j = true) → B2 p i ≤ B2 q i
 | 0, _ => by simp [B2]
 | i + 1, h => by
  have h1 := Y7 i (fun j hj => h j (by omega))
  have h2 := h i (by omega)
  unfold B2
  cases hp : p i with
  | true => rw [h2 hp]; simp only [cond_true]; omega
  | false => cases q i <;> simp only [cond_true, cond_false] <;> omega
theorem cn {p q : Nat → Bool} : ∀ i, (∀ j, j < i → p j = true → q j = true) → B2 p i = B2 q i → ∀ j, j < i → p j = q j
 | 0, _, _ => fun j hj => by omega
 | i + 1, h, he => by
  have h1 := Y7 i (fun j hj => h j (by omega))
  have h2 := h i (by omega)
  unfold B2 at he
  intro j hj
  have hpq : p i = q i ∧ B2 p i = B2 q i := by
   cases hp : p i with
   | true =>
    have hq := h2 hp
    rw [hp, hq] at he; simp only [cond_true] at he
    exact ⟨hq.symm, by omega⟩
   | false =>
    cases hq : q i with
    | true => rw [hp, hq] at he; simp only [cond_true, cond_false] at he; omega
    | false => rw [hp, hq] at he; simp only [cond_false] at he; exact ⟨rfl, he⟩
  rcases Nat.lt_or_ge j i with hji | hji
  ·exact cn i (fun j hj => h j (by omega)) hpq.2 j hji
  ·obtain rfl : j = i := by omega
   exact hpq.1
theorem cq {p q : Nat → Bool} : ∀ i, (∀ j, j < i → p j = true → q j = false) → B2 (fun j => p j || q j) i = B2 p i + B2 q i
 | 0, _ => rfl
 | i + 1, h => by
  have h1 := cq i (fun j hj => h j (by omega))
  have h2 := h i (by omega)
  unfold B2
  rw [h1]
  cases hp : p i with
  | true => rw [h2 hp]; simp only [Bool.true_or, cond_true, cond_false]; omega
  | false => cases q i <;> simp only [Bool.false_or, cond_true, cond_false] <;> omega
theorem YX (s : Int) : ∀ (i : Nat), 0 ≤ s → B2 (fun j => s == (j : Int) + 1) i = cond (!(s == 0) && iLe s (i : Int)) 1 0
 | 0, hs => by
  have : (!(s == 0) && iLe s ((0 : Nat) : Int)) = false := by
   rw [Bool.and_eq_false_iff]
   by_cases h : s = 0
   ·subst h; exact .inl rfl
   ·exact .inr (by simp only [iLe, decide_eq_false_iff_not]; omega)
  rw [this]; rfl
 | i + 1, hs => by
  unfold B2
  rw [YX s i hs]
  by_cases h : s = (i : Int) + 1
  ·have e1 : (s == (i : Int) + 1) = true := by simp [h]
   have e2 : iLe s (i : Int) = false := by simp only [iLe, decide_eq_false_iff_not]; omega
   have e3 : iLe s ((i + 1 : Nat) : Int) = true := by simp only [iLe, decide_eq_true_eq]; omega
   have e4 : (s == 0) = false := by simp only [beq_eq_false_iff_ne]; omega
   rw [e1, e2, e3, e4]; rfl
  ·have e1 : (s == (i : Int) + 1) = false := by simp [h]
   have e2 : iLe s (i : Int) = iLe s ((i + 1 : Nat) : Int) := by
    unfold iLe
    rw [Bool.eq_iff_iff, decide_eq_true_eq, decide_eq_true_eq]; omega
   rw [e1, e2]; rfl
theorem S1 (f : Nat → Bool) : ∀ (k i : Nat), A9 f (k + 1) i = (A9 f k i || f (i + k))
 | 0, i => by rw [Bd, HI, HI]; simp
 | k + 1, i => by rw [Bd, S1 f k (i + 1), Bd f k i, Bool.or_assoc]; congr 3; omega
theorem VX (f : Nat → Bool) : ∀ (k i : Nat), A9 f k (i + 1) = A9 (fun j => f (j + 1)) k i
 | 0, i => rfl
 | k + 1, i => by rw [Bd, Bd, VX f k (i + 1)]
def IK (p : Int → Bool) (L : Rows) : Bool := A9 (fun i => p (atI L i 0)) L.length 0
theorem Lq (p : Int → Bool) : ∀ (L : Rows), IK p L = L.any fun r => p (pvI (AF r 0))
 | [] => rfl
 | r :: L => by
  have ih := Lq p L
  unfold IK at ih ⊢
  rw [List.length_cons, Bd, VX, List.any_cons, ← ih]
  rfl
theorem Yi (p : Int → Bool) (a b : Rows) : IK p (a ++ b) = (IK p a || IK p b) := by
 rw [Lq, Lq, Lq, List.any_append]
theorem PXb : (∀ {α β : Type} (f : α → β) (a : α) (l : List α), List.map f (a :: l) = f a :: List.map f l) ∧ (∀ {α β : Type} (f : α → β), List.map f [] = []) ∧
    (∀ i : Int, Leaf.pv (.int i : Ab) = .int i) ∧ (∀ i : Bool, Leaf.pv (.bool i : Ab) = .bool i) ∧ (∀ i : ByteArray, Leaf.pv (.str i : Ab) = .str i) ∧ (∀ i : Rows, Leaf.pv (.rows i : Ab) = .rows i) ∧
    (∀ {α β : Type} (a : α) (f : α → Option β), (some a).bind f = f a) ∧ (∀ (p : PV) (r : List PV), AF (p :: r) 0 = p) ∧ (∀ (p : PV) (r : List PV) (j : Nat), AF (p :: r) (j + 1) = AF r j) ∧
    (∀ n : Int, pvI (.int n) = n) ∧ (∀ n : Bool, pvB (.bool n) = n) ∧ (∀ n : ByteArray, pvS (.str n) = n) ∧ (∀ n : Rows, pvL (.rows n) = n) ∧
    (∀ b p : Bool, cond b p false = (b && p)) ∧ (∀ b p : Bool, cond b true p = (b || p)) ∧ (∀ {α : Type} (a b : α), cond true a b = a) ∧ (∀ {α : Type} (a b : α), cond false a b = b) ∧
    (∀ a b : Bool, (a && (a && b)) = (a && b)) ∧ (∀ a : Bool, (a && a) = a) ∧ (∀ a b : Bool, (a || (a || b)) = (a || b)) ∧ (∀ a : Bool, (a || a) = a) ∧
    (∀ a : Bool, (a || true) = true) ∧ (∀ a : Bool, (a || false) = a) ∧ (∀ a : Bool, (true || a) = true) ∧ (∀ a : Bool, (false || a) = a) ∧
    (∀ a : Bool, (a && true) = a) ∧ (∀ a : Bool, (a && false) = false) ∧ (∀ a : Bool, (true && a) = a) ∧ (∀ a : Bool, (false && a) = false) ∧ ((!true) = false) ∧ ((!false) = true) ∧ (∀ a : Bool, (!(!a)) = a) ∧
    (∀ n : Nat, (n : Int).toNat = n) ∧ (∀ {O : Alg} (x : Ags O) (j : Nat), xr x [] j = []) ∧
    (∀ {O : Alg} (x : Ags O) (ks : List Nat) (j : Nat), xr x (0 :: ks) j = .int (x.I j) :: xr x ks (j + 1)) ∧ (∀ {O : Alg} (x : Ags O) (ks : List Nat) (j : Nat), xr x (1 :: ks) j = .bool (x.B j) :: xr x ks (j + 1)) ∧
    (∀ {O : Alg} (x : Ags O) (ks : List Nat) (j : Nat), xr x (2 :: ks) j = .str (x.S j) :: xr x ks (j + 1)) ∧ (∀ {O : Alg} (x : Ags O) (ks : List Nat) (j : Nat), xr x (3 :: ks) j = .rows (x.L j) :: xr x ks (j + 1)) ∧
    (∀ (O : Alg) (c : O.C) (j : Nat), cr O c [] j = []) ∧ (∀ (O : Alg) (c : O.C) (ks : List Nat) (j : Nat), cr O c (0 :: ks) j = .int (O.cI c j) :: cr O c ks (j + 1)) ∧ (∀ (O : Alg) (c : O.C) (ks : List Nat) (j : Nat), cr O c (1 :: ks) j = .bool (O.cB c j) :: cr O c ks (j + 1)) ∧
    (∀ (O : Alg) (c : O.C) (ks : List Nat) (j : Nat), cr O c (2 :: ks) j = .str (O.cS c j) :: cr O c ks (j + 1)) ∧ (∀ (O : Alg) (c : O.C) (ks : List Nat) (j : Nat), cr O c (3 :: ks) j = .rows (O.cL c j) :: cr O c ks (j + 1)) ∧
    (∀ (O : Alg) (l : O.L) (i : O.I) (j : Nat), rr O l i [] j = []) ∧ (∀ (O : Alg) (l : O.L) (i : O.I) (ks : List Nat) (j : Nat), rr O l i (0 :: ks) j = .int (O.rI l i j) :: rr O l i ks (j + 1)) ∧ (∀ (O : Alg) (l : O.L) (i : O.I) (ks : List Nat) (j : Nat), rr O l i (1 :: ks) j = .bool (O.rB l i j) :: rr O l i ks (j + 1)) ∧
    (∀ (O : Alg) (l : O.L) (i : O.I) (ks : List Nat) (j : Nat), rr O l i (2 :: ks) j = .str (O.rS l i j) :: rr O l i ks (j + 1)) ∧ (∀ (O : Alg) (l : O.L) (i : O.I) (ks : List Nat) (j : Nat), rr O l i (3 :: ks) j = .rows (O.rL l i j) :: rr O l i ks (j + 1)) ∧
    (kI = [0,0,0,0,0,0,0,0,0,0,0,0,0,0,3,0,3,3,1,3,1,0,0,0,3,0,0,0]) ∧ (kR = [2,0,0,0,0,0,0,0,1,0,0,0,0,3]) ∧ (kM = [2,0,0,0,0,0,0,0,1,0,0,0,0,3,0,0,1,3,0,0,0,0,0]) ∧
    (∀ (O : Alg) (b : List O.Lf), ap O [] b = b) ∧ (∀ (O : Alg) (x : O.Lf) (a b : List O.Lf), ap O (x :: a) b = x :: ap O a b) ∧
    (∀ {α : Type} (x : α) (a b : List α), x :: a ++ b = x :: (a ++ b)) ∧ (∀ {α : Type} (b : List α), [] ++ b = b) := by
  repeat' apply And.intro
  all_goals first | decide | (intros; rfl) | exact dB | exact WA | exact gU | exact Int.toNat_natCast
theorem PXc : (∀ (b : Bool) (x y : List PV) (j : Nat), pvB (AF (cond b x y) j) = cond b (pvB (AF x j)) (pvB (AF y j))) ∧ (∀ (b : Bool) (x y : List PV) (j : Nat), pvI (AF (cond b x y) j) = cond b (pvI (AF x j)) (pvI (AF y j))) ∧
    (∀ (b : Bool) (x y : List PV) (j : Nat), pvS (AF (cond b x y) j) = cond b (pvS (AF x j)) (pvS (AF y j))) ∧ (∀ (b : Bool) (x y : List PV) (j : Nat), pvL (AF (cond b x y) j) = cond b (pvL (AF x j)) (pvL (AF y j))) := ⟨gS, gJ, gG, gR⟩
theorem PXn : (∀ a b : Bool, (!(a || b)) = (!a && !b)) ∧ (∀ a b : Bool, (!(a && b)) = (!a || !b)) ∧ (∀ b p : Bool, cond b false p = (!b && p)) ∧ (∀ b p : Bool, cond b p true = (!b || p)) := ⟨by decide, by decide, f8, gI⟩
end Go.Px
end
section
namespace Go.Px
structure Inn where
 side : Int
 target : Int
 overs : Int
 runs : Int
 wickets : Int
 wides : Int
 noballs : Int
 byes : Int
 legbyes : Int
 pens : Int
 complete : Int
 inover : Int
 striker : Int
 other : Int
 batters : Rows
 bowler : Int
 bowlers : Rows
 before : Rows
 fresh : Bool
 bowled : Rows
 freehit : Bool
 ballage : Int
 keeper : Int
 outside : Int
 subs : Rows
 rev1 : Int
 rev2 : Int
 ending : Int
structure Rul where
 name : ByteArray
 side : Int
 innings : Int
 overs : Int
 balls : Int
 quota : Int
 wide : Int
 noball : Int
 freehit : Bool
 newball : Int
 followon : Int
 reviews : Int
 outside : Int
 power : Rows
structure Del where
 type : Int
 source : Int
 runs : Int
 short : Int
 boundary : Int
 crossed : Bool
 how : Int
 victim : Int
 fielder : Int
 second : Int
 sub : Bool
 sector : Int
structure Ev where
 kind : Int
 side : Int
 player : Int
 other : Int
 yes : Bool
 runs : Int
 overs : Int
 ball : Del
def Inn.ls (s : Inn) : List PV := [.int s.side, .int s.target, .int s.overs, .int s.runs, .int s.wickets, .int s.wides, .int s.noballs, .int s.byes, .int s.legbyes, .int s.pens, .int s.complete, .int s.inover, .int s.striker, .int s.other, .rows s.batters, .int s.bowler, .rows s.bowlers, .rows s.before, .bool s.fresh, .rows s.bowled, .bool s.freehit, .int s.ballage, .int s.keeper, .int s.outside, .rows s.subs, .int s.rev1, .int s.rev2, .int s.ending]
def Rul.ls (r : Rul) : List PV := [.str r.name, .int r.side, .int r.innings, .int r.overs, .int r.balls, .int r.quota, .int r.wide, .int r.noball, .bool r.freehit, .int r.newball, .int r.followon, .int r.reviews, .int r.outside, .rows r.power]
def Del.ls (d : Del) : List PV := [.int d.type, .int d.source, .int d.runs, .int d.short, .int d.boundary, .bool d.crossed, .int d.how, .int d.victim, .int d.fielder, .int d.second, .bool d.sub, .int d.sector]
def A5 (x : Inn × Int) : List PV := [.int x.1.side, .int x.1.target, .int x.1.overs, .int x.1.runs, .int x.1.wickets, .int x.1.wides, .int x.1.noballs, .int x.1.byes, .int x.1.legbyes, .int x.1.pens, .int x.1.complete, .int x.1.inover, .int x.1.striker, .int x.1.other, .rows x.1.batters, .int x.1.bowler, .rows x.1.bowlers, .rows x.1.before, .bool x.1.fresh, .rows x.1.bowled, .bool x.1.freehit, .int x.1.ballage, .int x.1.keeper, .int x.1.outside, .rows x.1.subs, .int x.1.rev1, .int x.1.rev2, .int x.1.ending, .int x.2]
structure Fit (bt bw bf bd sb : Rows) : Prop where
 bt : bt.length ≤ 1048576
 bw : bw.length ≤ 1048576
 bf : bf.length ≤ 1048576
 bd : bd.length ≤ 1048576
 sb : sb.length ≤ 1048576
theorem Fit.bw' {bt bw bf bd sb : Rows} (h : Fit bt bw bf bd sb) : bw.length ≤ 1048576 := h.bw
theorem fh {L : Rows} {b : Nat} (h : L.length ≤ 1048576) (hb : b ≤ 4096) : iSm (L.length : Int) b = true := KZ (by omega) hb
abbrev Inn.Fit (s : Inn) : Prop := Px.Fit s.batters s.bowlers s.before s.bowled s.subs
def inR (p : Int) (n : Nat) : Bool := iLe 1 p && iLe p (n : Int)
theorem I3 {p : Int} {n : Nat} (h : inR p n = true) (hn : n ≤ 1048576) : iIn (IntKind.i64.wrap (p - 1)) (n : Int) = true := by
 simp only [inR, iLe, Bool.and_eq_true, decide_eq_true_eq] at h
 rw [IU (by omega) (by omega)]
 simp only [iIn, decide_eq_true_eq]; omega
theorem f0 (b : Bool) (x y z : Int) : (cond b x y == z) = cond b (x == z) (y == z) := by cases b <;> rfl
theorem fe (b : Bool) (x y : Int) : cond b [PV.int x] [PV.int y] = [PV.int (cond b x y)] := by cases b <;> rfl
theorem IY : ((0 : Nat) : Int) = 0 := rfl
theorem ZV : ((1 : Nat) : Int) = 1 := rfl
theorem fW : ((2 : Nat) : Int) = 2 := rfl
theorem gE : ((3 : Nat) : Int) = 3 := rfl
theorem Wq {a b c : Int} (h : (a == b) = true) (hbc : (b == c) = false) : (a == c) = false := by rw [beq_iff_eq.1 h]; exact hbc
theorem eh (b x : Bool) : cond b b x = (b || x) := by cases b <;> rfl
theorem Inn.eta (s : Inn) : Inn.mk s.side s.target s.overs s.runs s.wickets s.wides s.noballs s.byes s.legbyes s.pens s.complete s.inover s.striker s.other s.batters s.bowler s.bowlers s.before s.fresh s.bowled s.freehit s.ballage s.keeper s.outside s.subs s.rev1 s.rev2 s.ending = s := rfl
theorem Rul.eta (r : Rul) : Rul.mk r.name r.side r.innings r.overs r.balls r.quota r.wide r.noball r.freehit r.newball r.followon r.reviews r.outside r.power = r := rfl
theorem fw {p : Int} {n : Nat} {X Y : Option (List PV)} (hn : n ≤ 1048576) : cond (inR p n) (cond (iIn (IntKind.i64.wrap (p - 1)) (n : Int)) X none) Y = cond (inR p n) X Y := by
 cases h : inR p n with
 | false => rfl
 | true => rw [I3 h hn]; rfl
def ix (p : Int) : Nat := (IntKind.i64.wrap (p - 1)).toNat
def LG (L : Rows) (p v : Int) : Rows := L.set (ix p) (B1 (BB L (ix p)) 0 [.int v])
def di (L : Rows) (p : Int) (v : Bool) : Rows := L.set (ix p) (B1 (BB L (ix p)) 0 [.bool v])
theorem JE (L : Rows) (p v : Int) : (LG L p v).length = L.length := by simp [LG]
theorem dp (L : Rows) (p : Int) (v : Bool) : (di L p v).length = L.length := by simp [di]
theorem BH {L : Rows} {b : Nat} (h : L.length ≤ 1048576) (hb : b ≤ 4096) : MM b [.rows L] = some [.rows L] := by
 have h1 := KZ (n := L.length) (b := b) (by omega) hb
 have : Tb L.length b = true := by
  simp only [iSm, decide_eq_true_eq] at h1
  simp only [Tb, decide_eq_true_eq]
  have h2 := h1.2.2.1
  rw [← Int.natCast_mul] at h2
  omega
 simp only [MM, this]
def Dx (L : Rows) : Bool := A9 (fun i => !(atI L i 0 == 0)) L.length 0
def KF (L : Rows) (s n : Int) : Bool := Dx L && (s == 0 || n == 0)
def ED (L : Rows) : Nat → Rows
 | 0 => []
 | i + 1 => cond (atI L i 0 == 0 || atI L i 0 == 3) (ED L i ++ [[.int ((i : Int) + 1)]]) (ED L i)
theorem Uy (L : Rows) : ∀ i, (ED L i).length ≤ i
 | 0 => Nat.le_refl _
 | i + 1 => by
  have := Uy L i
  unfold ED
  cases (atI L i 0 == 0 || atI L i 0 == 3)
  ·exact Nat.le_succ_of_le this
  ·simp; exact this
theorem eZ {v : Int} (h : (v == 1) = true) : (v == 2) = false := by
 have := beq_iff_eq.1 h
 rw [beq_eq_false_iff_ne]; omega
theorem PXm : (∀ (b : Bool) (x y : List PV), cond b (some x) (some y) = some (cond b x y)) ∧ (∀ {α : Type} (b : Bool) (x : α), cond b x x = x) ∧ (∀ b x : Bool, cond b b x = (b || x)) ∧ (((0 : Nat) : Int) = 0) ∧ (((1 : Nat) : Int) = 1) ∧ (((2 : Nat) : Int) = 2) ∧ (((3 : Nat) : Int) = 3) ∧
    (∀ (b : Bool) (x y : Int), cond b [PV.int x] [PV.int y] = [PV.int (cond b x y)]) ∧ (∀ (b x y : Bool), cond b [PV.bool x] [PV.bool y] = [PV.bool (cond b x y)]) ∧ (∀ {α : Type} (l : List α) (i : Nat) (a : α), (l.set i a).length = l.length) ∧
    (∀ (b : Bool) (x y z : Int), (cond b x y == z) = cond b (x == z) (y == z)) ∧ (∀ x : Int, (x == x) = true) ∧ (∀ x : Bool, (x == x) = true) ∧
    (∀ s : Inn, s.ls = [.int s.side, .int s.target, .int s.overs, .int s.runs, .int s.wickets, .int s.wides, .int s.noballs, .int s.byes, .int s.legbyes, .int s.pens, .int s.complete, .int s.inover, .int s.striker, .int s.other, .rows s.batters, .int s.bowler, .rows s.bowlers, .rows s.before, .bool s.fresh, .rows s.bowled, .bool s.freehit, .int s.ballage, .int s.keeper, .int s.outside, .rows s.subs, .int s.rev1, .int s.rev2, .int s.ending]) ∧
    (∀ x : Inn × Int, A5 x = [.int x.1.side, .int x.1.target, .int x.1.overs, .int x.1.runs, .int x.1.wickets, .int x.1.wides, .int x.1.noballs, .int x.1.byes, .int x.1.legbyes, .int x.1.pens, .int x.1.complete, .int x.1.inover, .int x.1.striker, .int x.1.other, .rows x.1.batters, .int x.1.bowler, .rows x.1.bowlers, .rows x.1.before, .bool x.1.fresh, .rows x.1.bowled, .bool x.1.freehit, .int x.1.ballage, .int x.1.keeper, .int x.1.outside, .rows x.1.subs, .int x.1.rev1, .int x.1.rev2, .int x.1.ending, .int x.2]) ∧
    (∀ s : Inn, Inn.mk s.side s.target s.overs s.runs s.wickets s.wides s.noballs s.byes s.legbyes s.pens s.complete s.inover s.striker s.other s.batters s.bowler s.bowlers s.before s.fresh s.bowled s.freehit s.ballage s.keeper s.outside s.subs s.rev1 s.rev2 s.ending = s) ∧
    (∀ r : Rul, Rul.mk r.name r.side r.innings r.overs r.balls r.quota r.wide r.noball r.freehit r.newball r.followon r.reviews r.outside r.power = r) :=
  ⟨fT, fZ, eh, IY, ZV, fW, gE, fe, fm, fun _ _ _ => List.length_set, f0, fun _ => beq_self_eq_true _, fun _ => beq_self_eq_true _, fun _ => rfl, fun _ => rfl, Inn.eta, Rul.eta⟩
end Go.Px
end
