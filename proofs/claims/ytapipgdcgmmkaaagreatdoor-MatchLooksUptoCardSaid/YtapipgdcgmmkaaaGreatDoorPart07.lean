/- Part 7. -/
import Derived.Test.YtapipgdcgmmkaaaGreatDoorPart06
set_option linter.unusedVariables false
set_option linter.unusedSimpArgs false
section
namespace Go.Px
def rI (xs : List Int) : Rows := xs.map fun n => [PV.int n]
def rB (xs : List Bool) : Rows := xs.map fun n => [PV.bool n]
theorem Lz {n : Int} (h1 : -9223372036854775808 ≤ n) (h2 : n ≤ 9223372036854775807) : IntKind.i64.wrap n = n := by
 unfold IntKind.wrap
 simp [IntKind.signed, IntKind.bits]
 omega
theorem AL (b : Bool) (x y : List PV) (k : List PV → Option (List PV)) : (cond b (some x) (some y) : Option (List PV)).bind k = k (cond b x y) := by cases b <;> rfl
theorem ZI (b : Bool) (x y : List PV) (j : Nat) : pvB (AF (cond b x y) j) = cond b (pvB (AF x j)) (pvB (AF y j)) := by cases b <;> rfl
theorem ZJ (b : Bool) (x y : List PV) (j : Nat) : pvI (AF (cond b x y) j) = cond b (pvI (AF x j)) (pvI (AF y j)) := by cases b <;> rfl
theorem ZF (b : Bool) (x y : List PV) (j : Nat) : pvS (AF (cond b x y) j) = cond b (pvS (AF x j)) (pvS (AF y j)) := by cases b <;> rfl
theorem ZH (b : Bool) (x y : List PV) (j : Nat) : pvL (AF (cond b x y) j) = cond b (pvL (AF x j)) (pvL (AF y j)) := by cases b <;> rfl
theorem Rs (b p : Bool) : cond b p false = (b && p) := by cases b <;> rfl
theorem ZM (b p : Bool) : cond b true p = (b || p) := by cases b <;> rfl
theorem Y8 (b p : Bool) : cond b false p = (!b && p) := by cases b <;> rfl
theorem ZA (b p : Bool) : cond b p true = (!b || p) := by cases b <;> rfl
theorem Yq (b : Bool) (x y : List PV) : cond b (some x) (some y) = some (cond b x y) := by cases b <;> rfl
theorem Yx {α : Type} (b : Bool) (x : α) : cond b x x = x := by cases b <;> rfl
theorem Y2 (b p q : Bool) : cond b [PV.bool p] [PV.bool q] = [PV.bool (cond b p q)] := by cases b <;> rfl
theorem Ww (p : PV) (r : List PV) : AF (p :: r) 0 = p := rfl
theorem XT (p : PV) (r : List PV) (j : Nat) : AF (p :: r) (j + 1) = AF r j := by simp [AF]
theorem Am {F : (List AY → Option (List PV)) → List PV → Option (List PV)} {n : Nat} {c r : List PV} {k : List PV → Option (List PV)} {g : Option (List PV)} (h : Eo F n c = some r) (hk : k r = g) : (Eo F n c).bind k = g := by
 rw [h]; exact hk
def F3 (ans : Nat → Option (List PV)) : Nat → Nat → Option (List PV)
 | 0, _ => none
 | k + 1, i => match ans i with
  | some r => some r
  | none => F3 ans k (i + 1)
def UI : Option (List PV) → List PV
 | some r => .int 0 :: r
 | none => [.int 1]
theorem Fm {F : (List AY → Option (List PV)) → List PV → Option (List PV)} {len : Nat} (ans : Nat → Option (List PV))
    (h0 : ∀ self, F self [.int (len : Int)] = some [.int 1]) (h1 : ∀ i self, i < len → F self [.int (i : Int)] = match ans i with | some r => some (.int 0 :: r) | none => self [.int ((i : Int) + 1)]) :
    ∀ (k i n : Nat), i + k = len → k < n → Eo F n [.int (i : Int)] = some (UI (F3 ans k i))
  | 0, i, n, hk, hn => by
    obtain ⟨n, rfl⟩ : ∃ m, n = m + 1 := ⟨n - 1, by omega⟩
    obtain rfl : i = len := by omega
    exact h0 _
  | k + 1, i, n, hk, hn => by
    obtain ⟨n, rfl⟩ : ∃ m, n = m + 1 := ⟨n - 1, by omega⟩
    have h2 := h1 i (fun ls => Eo F n (ls.map Leaf.pv)) (by omega)
    show F _ _ = _
    rw [h2]
    simp only [F3]
    cases ha : ans i with
    | some r => rfl
    | none =>
      have := Fm ans h0 h1 k (i + 1) n (by omega) (by omega)
      show Eo F n [.int ((i : Int) + 1)] = _
      rw [show ((i : Int) + 1) = (((i + 1 : Nat)) : Int) by omega]
      exact this
def Ae (bad : Nat → Bool) (k i : Nat) : Bool := (List.range' i k).any bad
theorem Hf (bad : Nat → Bool) (i : Nat) : Ae bad 0 i = false := rfl
theorem BD (bad : Nat → Bool) (k i : Nat) : Ae bad (k + 1) i = (bad i || Ae bad k (i + 1)) := by simp only [Ae, List.range'_succ, List.any_cons]
theorem TZ (bad : Nat → Bool) (r : List PV) : ∀ (k i : Nat), F3 (fun j => cond (bad j) (some r) none) k i = cond (Ae bad k i) (some r) none
 | 0, i => rfl
 | k + 1, i => by
  rw [BD]
  simp only [F3]
  cases hb : bad i with
  | true => rfl
  | false => rw [Bool.false_or]; exact TZ bad r k (i + 1)
theorem R7 {f g : Nat → Bool} : ∀ (k i : Nat), (∀ j, i ≤ j → j < i + k → f j = g j) → Ae f k i = Ae g k i
 | 0, i, _ => rfl
 | k + 1, i, h => by rw [BD, BD, h i (Nat.le_refl _) (by omega), R7 k (i + 1) (fun j h1 h2 => h j (by omega) (by omega))]
theorem Mk {f : Nat → Bool} {k i : Nat} : Ae f k i = false ↔ ∀ j, i ≤ j → j < i + k → f j = false := by
 induction k generalizing i with
 | zero => simp [Hf]; intro j h1 h2; omega
 | succ k ih =>
  rw [BD, Bool.or_eq_false_iff, ih]
  constructor
  ·intro ⟨h1, h2⟩ j h3 h4
   rcases Nat.lt_or_ge i j with h | h
   ·exact h2 j h (by omega)
   ·obtain rfl : j = i := by omega
    exact h1
  ·intro h; exact ⟨h i (Nat.le_refl _) (by omega), fun j h1 h2 => h j (by omega) (by omega)⟩
theorem CC {F : (List AY → Option (List PV)) → List PV → Option (List PV)} {len : Nat} (bad : Nat → Bool) (r : List PV)
    (h0 : ∀ self, F self [.int (len : Int)] = some [.int 1]) (h1 : ∀ i self, i < len → F self [.int (i : Int)] = cond (bad i) (some (.int 0 :: r)) (self [.int ((i : Int) + 1)])) (n : Nat) (hn : len < n) :
    Eo F n [.int 0] = some (cond (Ae bad len 0) (.int 0 :: r) [.int 1]) := by
  have := Fm (F := F) (len := len) (fun j => cond (bad j) (some r) none) h0 (fun i self hi => by rw [h1 i self hi]; cases bad i <;> rfl) len 0 n (by omega) hn
  rw [show (0 : Int) = ((0 : Nat) : Int) from rfl, this, TZ]
  cases Ae bad len 0 <;> rfl
theorem A0 {i : Nat} (h : i ≤ 1099511627776) : IntKind.i64.wrap ((i : Int) + 1) = (i : Int) + 1 := Lz (by omega) (by omega)
theorem Az {i len : Nat} (h : i < len) : iIn (i : Int) (len : Int) = true := by simp [iIn]; omega
theorem BW {i len : Nat} (h : i < len) : iLt (i : Int) (len : Int) = true := by simp [iLt]; omega
theorem Bo (len : Nat) : iLt (len : Int) (len : Int) = false := by simp [iLt]
theorem MU {F : (List AY → Option (List PV)) → List PV → Option (List PV)} {len : Nat} (enc : Nat → List AY) (bad : Nat → Bool) (r fin : List PV)
    (h0 : ∀ self, F self ((enc len).map Leaf.pv) = some fin) (h1 : ∀ i self, i < len → F self ((enc i).map Leaf.pv) = cond (bad i) (some r) (self (enc (i + 1)))) (n : Nat) (hn : len < n) :
    Eo F n ((enc 0).map Leaf.pv) = some (cond (Ae bad len 0) r fin) := by
  have main : ∀ (k i n : Nat), i + k = len → k < n → Eo F n ((enc i).map Leaf.pv) = some (cond (Ae bad k i) r fin) := by
    intro k
    induction k with
    | zero =>
      intro i n hk hn
      obtain ⟨n, rfl⟩ : ∃ m, n = m + 1 := ⟨n - 1, by omega⟩
      obtain rfl : i = len := by omega
      exact h0 _
    | succ k ih =>
      intro i n hk hn
      obtain ⟨n, rfl⟩ : ∃ m, n = m + 1 := ⟨n - 1, by omega⟩
      show F _ _ = _
      rw [h1 i _ (by omega), BD]
      cases bad i with
      | true => rfl
      | false => exact ih (i + 1) n (by omega) (by omega)
  exact main len 0 n (by omega) hn
theorem YY (k i : Nat) : Ae (fun _ => false) k i = false := Mk.2 fun _ _ _ => rfl
theorem Q8 {F : (List AY → Option (List PV)) → List PV → Option (List PV)} {len : Nat} (enc : Nat → List AY) (fin : List PV)
    (h0 : ∀ self, F self ((enc len).map Leaf.pv) = some fin) (h1 : ∀ i self, i < len → F self ((enc i).map Leaf.pv) = self (enc (i + 1))) (n : Nat) (hn : len < n) :
    Eo F n ((enc 0).map Leaf.pv) = some fin := by
  have := MU (F := F) enc (fun _ => false) [] fin h0 h1 n hn
  rw [YY] at this
  exact this
def MP (p : Nat → Bool) : Nat → Option (List PV) := fun j => cond (p j) (some [.int (j : Int)]) none
def Wn (p : Nat → Bool) (k : Nat) : Int := match F3 (MP p) k 0 with
 | some r => pvI (AF r 0)
 | none => -1
theorem QR (p : Nat → Bool) : ∀ k i, iLe 0 (match F3 (MP p) k i with | some r => pvI (AF r 0) | none => -1) = Ae p k i
 | 0, i => rfl
 | k + 1, i => by
  rw [BD]
  simp only [F3, MP]
  cases h : p i with
  | true => simp only [cond_true, Ww, Bool.true_or, pvI, iLe]; simp
  | false => rw [Bool.false_or]; exact QR p k (i + 1)
theorem Ra (p : Nat → Bool) (k : Nat) : iLe 0 (Wn p k) = Ae p k 0 := QR p k 0
theorem YE {i len : Nat} (h : i ≤ len) : iRg 0 (i : Int) (len : Int) = true := by simp [iRg]; omega
theorem YF {n b : Nat} (h : n ≤ 4194304) (hb : b ≤ 4096) : iSm (n : Int) b = true := by
 have : n * b ≤ 4194304 * 4096 := Nat.mul_le_mul h hb
 simp only [iSm, decide_eq_true_eq]
 refine ⟨by omega, by omega, ?_, by omega⟩
 rw [← Int.natCast_mul]; omega
def atI (L : Rows) (i j : Nat) : Int := pvI (AM L i j)
theorem Eg (L : Rows) (i j : Nat) : pvI (AM L i j) = atI L i j := rfl
theorem Ud {L : Rows} {i j k : Nat} (h : j < i) : atI (L.take i) j k = atI L j k := by
 unfold atI AM A5
 simp only [List.getD_eq_getElem?_getD]
 rw [List.getElem?_take_of_lt h]
def BR (p : Nat → Bool) : Nat → Int
 | 0 => 0
 | i + 1 => cond (p i) (BR p i + 1) (BR p i)
theorem W2 (p : Nat → Bool) : ∀ i, 0 ≤ BR p i ∧ BR p i ≤ (i : Int)
 | 0 => by simp [BR]
 | i + 1 => by
  have := W2 p i
  unfold BR
  cases p i <;> simp only [cond_true, cond_false] <;> omega
theorem MY (p : Nat → Bool) {i : Nat} (h : i ≤ 1099511627776) : IntKind.i64.wrap (BR p i + 1) = BR p i + 1 := by
 have := W2 p i
 exact Lz (by omega) (by omega)
theorem TW {p q : Nat → Bool} : ∀ i, (∀ j, j < i → p j = q j) → BR p i = BR q i
 | 0, _ => rfl
 | i + 1, h => by
  unfold BR
  rw [h i (by omega), TW i (fun j hj => h j (by omega))]
theorem UW {p q : Nat → Bool} : ∀ i, (∀ j, j < i → p j = true → q j = true) → BR p i ≤ BR q i
 | 0, _ => by simp [BR]
 | i + 1, h => by
  have h1 := UW i (fun j hj => h j (by omega))
  have h2 := h i (by omega)
  unfold BR
  cases hp : p i with
  | true => rw [h2 hp]; simp only [cond_true]; omega
  | false => cases q i <;> simp only [cond_true, cond_false] <;> omega
theorem XM {p q : Nat → Bool} : ∀ i, (∀ j, j < i → p j = true → q j = true) → BR p i = BR q i → ∀ j, j < i → p j = q j
 | 0, _, _ => fun j hj => by omega
 | i + 1, h, he => by
  have h1 := UW i (fun j hj => h j (by omega))
  have h2 := h i (by omega)
  unfold BR at he
  intro j hj
  have hpq : p i = q i ∧ BR p i = BR q i := by
   cases hp : p i with
   | true =>
    have hq := h2 hp
    rw [hp, hq] at he; simp only [cond_true] at he
    exact ⟨hq.symm, by omega⟩
   | false =>
    cases hq : q i with
    | true => rw [hp, hq] at he; simp only [cond_true, cond_false] at he; omega
    | false => rw [hp, hq] at he; simp only [cond_false] at he; exact ⟨rfl, he⟩
  rcases Nat.lt_or_ge j i with hji | hji
  ·exact XM i (fun j hj => h j (by omega)) hpq.2 j hji
  ·obtain rfl : j = i := by omega
   exact hpq.1
theorem Ws {p q : Nat → Bool} : ∀ i, (∀ j, j < i → p j = true → q j = false) → BR (fun j => p j || q j) i = BR p i + BR q i
 | 0, _ => rfl
 | i + 1, h => by
  have h1 := Ws i (fun j hj => h j (by omega))
  have h2 := h i (by omega)
  unfold BR
  rw [h1]
  cases hp : p i with
  | true => rw [h2 hp]; simp only [Bool.true_or, cond_true, cond_false]; omega
  | false => cases q i <;> simp only [Bool.false_or, cond_true, cond_false] <;> omega
theorem Uj (s : Int) : ∀ (i : Nat), 0 ≤ s → BR (fun j => s == (j : Int) + 1) i = cond (!(s == 0) && iLe s (i : Int)) 1 0
 | 0, hs => by
  have : (!(s == 0) && iLe s ((0 : Nat) : Int)) = false := by
   rw [Bool.and_eq_false_iff]
   by_cases h : s = 0
   ·subst h; exact .inl rfl
   ·exact .inr (by simp only [iLe, decide_eq_false_iff_not]; omega)
  rw [this]; rfl
 | i + 1, hs => by
  unfold BR
  rw [Uj s i hs]
  by_cases h : s = (i : Int) + 1
  ·have e1 : (s == (i : Int) + 1) = true := by simp [h]
   have e2 : iLe s (i : Int) = false := by simp only [iLe, decide_eq_false_iff_not]; omega
   have e3 : iLe s ((i + 1 : Nat) : Int) = true := by simp only [iLe, decide_eq_true_eq]; omega
   have e4 : (s == 0) = false := by simp only [beq_eq_false_iff_ne]; omega
   rw [e1, e2, e3, e4]; rfl
  ·have e1 : (s == (i : Int) + 1) = false := by simp [h]
   have e2 : iLe s (i : Int) = iLe s ((i + 1 : Nat) : Int) := by
    unfold iLe
    rw [Bool.eq_iff_iff, decide_eq_true_eq, decide_eq_true_eq]; omega
   rw [e1, e2]; rfl
theorem Ti (f : Nat → Bool) : ∀ (k i : Nat), Ae f (k + 1) i = (Ae f k i || f (i + k))
 | 0, i => by rw [BD, Hf, Hf]; simp
 | k + 1, i => by rw [BD, Ti f k (i + 1), BD f k i, Bool.or_assoc]; congr 3; omega
theorem R5 (f : Nat → Bool) : ∀ (k i : Nat), Ae f k (i + 1) = Ae (fun j => f (j + 1)) k i
 | 0, i => rfl
 | k + 1, i => by rw [BD, BD, R5 f k (i + 1)]
def JV (p : Int → Bool) (L : Rows) : Bool := Ae (fun i => p (atI L i 0)) L.length 0
theorem MB (p : Int → Bool) : ∀ (L : Rows), JV p L = L.any fun r => p (pvI (AF r 0))
 | [] => rfl
 | r :: L => by
  have ih := MB p L
  unfold JV at ih ⊢
  rw [List.length_cons, BD, R5, List.any_cons, ← ih]
  rfl
theorem Xr (p : Int → Bool) (a b : Rows) : JV p (a ++ b) = (JV p a || JV p b) := by
 rw [MB, MB, MB, List.any_append]
theorem PXb : (∀ {α β : Type} (f : α → β) (a : α) (l : List α), List.map f (a :: l) = f a :: List.map f l) ∧ (∀ {α β : Type} (f : α → β), List.map f [] = []) ∧
    (∀ i : Int, Leaf.pv (.int i : AY) = .int i) ∧ (∀ i : Bool, Leaf.pv (.bool i : AY) = .bool i) ∧ (∀ i : ByteArray, Leaf.pv (.str i : AY) = .str i) ∧ (∀ i : Rows, Leaf.pv (.rows i : AY) = .rows i) ∧
    (∀ {α β : Type} (a : α) (f : α → Option β), (some a).bind f = f a) ∧ (∀ (p : PV) (r : List PV), AF (p :: r) 0 = p) ∧ (∀ (p : PV) (r : List PV) (j : Nat), AF (p :: r) (j + 1) = AF r j) ∧
    (∀ n : Int, pvI (.int n) = n) ∧ (∀ n : Bool, pvB (.bool n) = n) ∧ (∀ n : ByteArray, pvS (.str n) = n) ∧ (∀ n : Rows, pvL (.rows n) = n) ∧
    (∀ b p : Bool, cond b p false = (b && p)) ∧ (∀ b p : Bool, cond b true p = (b || p)) ∧ (∀ {α : Type} (a b : α), cond true a b = a) ∧ (∀ {α : Type} (a b : α), cond false a b = b) ∧
    (∀ a b : Bool, (a && (a && b)) = (a && b)) ∧ (∀ a : Bool, (a && a) = a) ∧ (∀ a b : Bool, (a || (a || b)) = (a || b)) ∧ (∀ a : Bool, (a || a) = a) ∧
    (∀ a : Bool, (a || true) = true) ∧ (∀ a : Bool, (a || false) = a) ∧ (∀ a : Bool, (true || a) = true) ∧ (∀ a : Bool, (false || a) = a) ∧
    (∀ a : Bool, (a && true) = a) ∧ (∀ a : Bool, (a && false) = false) ∧ (∀ a : Bool, (true && a) = a) ∧ (∀ a : Bool, (false && a) = false) ∧ ((!true) = false) ∧ ((!false) = true) ∧ (∀ a : Bool, (!(!a)) = a) ∧
    (∀ n : Nat, (n : Int).toNat = n) ∧ (∀ {O : Alg} (x : Ags O) (j : Nat), xr x [] j = []) ∧
    (∀ {O : Alg} (x : Ags O) (ks : List Nat) (j : Nat), xr x (0 :: ks) j = .int (x.I j) :: xr x ks (j + 1)) ∧ (∀ {O : Alg} (x : Ags O) (ks : List Nat) (j : Nat), xr x (1 :: ks) j = .bool (x.B j) :: xr x ks (j + 1)) ∧
    (∀ {O : Alg} (x : Ags O) (ks : List Nat) (j : Nat), xr x (2 :: ks) j = .str (x.S j) :: xr x ks (j + 1)) ∧ (∀ {O : Alg} (x : Ags O) (ks : List Nat) (j : Nat), xr x (3 :: ks) j = .rows (x.L j) :: xr x ks (j + 1)) ∧
    (∀ (O : Alg) (c : O.C) (j : Nat), cr O c [] j = []) ∧ (∀ (O : Alg) (c : O.C) (ks : List Nat) (j : Nat), cr O c (0 :: ks) j = .int (O.cI c j) :: cr O c ks (j + 1)) ∧ (∀ (O : Alg) (c : O.C) (ks : List Nat) (j : Nat), cr O c (1 :: ks) j = .bool (O.cB c j) :: cr O c ks (j + 1)) ∧
    (∀ (O : Alg) (c : O.C) (ks : List Nat) (j : Nat), cr O c (2 :: ks) j = .str (O.cS c j) :: cr O c ks (j + 1)) ∧ (∀ (O : Alg) (c : O.C) (ks : List Nat) (j : Nat), cr O c (3 :: ks) j = .rows (O.cL c j) :: cr O c ks (j + 1)) ∧
    (∀ (O : Alg) (l : O.L) (i : O.I) (j : Nat), rr O l i [] j = []) ∧ (∀ (O : Alg) (l : O.L) (i : O.I) (ks : List Nat) (j : Nat), rr O l i (0 :: ks) j = .int (O.rI l i j) :: rr O l i ks (j + 1)) ∧ (∀ (O : Alg) (l : O.L) (i : O.I) (ks : List Nat) (j : Nat), rr O l i (1 :: ks) j = .bool (O.rB l i j) :: rr O l i ks (j + 1)) ∧
    (∀ (O : Alg) (l : O.L) (i : O.I) (ks : List Nat) (j : Nat), rr O l i (2 :: ks) j = .str (O.rS l i j) :: rr O l i ks (j + 1)) ∧ (∀ (O : Alg) (l : O.L) (i : O.I) (ks : List Nat) (j : Nat), rr O l i (3 :: ks) j = .rows (O.rL l i j) :: rr O l i ks (j + 1)) ∧
    (kI = [0,0,0,0,0,0,0,0,0,0,0,0,0,0,3,0,3,3,1,3,1,0,0,0,3,0,0,0]) ∧ (kR = [2,0,0,0,0,0,0,0,1,0,0,0,0,3]) ∧ (kM = [2,0,0,0,0,0,0,0,1,0,0,0,0,3,0,0,1,3,0,0,0,0,0]) ∧
    (∀ (O : Alg) (b : List O.Lf), ap O [] b = b) ∧ (∀ (O : Alg) (x : O.Lf) (a b : List O.Lf), ap O (x :: a) b = x :: ap O a b) ∧
    (∀ {α : Type} (x : α) (a b : List α), x :: a ++ b = x :: (a ++ b)) ∧ (∀ {α : Type} (b : List α), [] ++ b = b) := by
  repeat' apply And.intro
  all_goals first | decide | (intros; rfl) | exact XT | exact Rs | exact ZM | exact Int.toNat_natCast
theorem PXc : (∀ (b : Bool) (x y : List PV) (j : Nat), pvB (AF (cond b x y) j) = cond b (pvB (AF x j)) (pvB (AF y j))) ∧ (∀ (b : Bool) (x y : List PV) (j : Nat), pvI (AF (cond b x y) j) = cond b (pvI (AF x j)) (pvI (AF y j))) ∧
    (∀ (b : Bool) (x y : List PV) (j : Nat), pvS (AF (cond b x y) j) = cond b (pvS (AF x j)) (pvS (AF y j))) ∧ (∀ (b : Bool) (x y : List PV) (j : Nat), pvL (AF (cond b x y) j) = cond b (pvL (AF x j)) (pvL (AF y j))) := ⟨ZI, ZJ, ZF, ZH⟩
theorem PXn : (∀ a b : Bool, (!(a || b)) = (!a && !b)) ∧ (∀ a b : Bool, (!(a && b)) = (!a || !b)) ∧ (∀ b p : Bool, cond b false p = (!b && p)) ∧ (∀ b p : Bool, cond b p true = (!b || p)) := ⟨by decide, by decide, Y8, ZA⟩
end Go.Px
end
section
namespace Go.Px
structure Inn where
 side : Int
 target : Int
 overs : Int
 runs : Int
 wickets : Int
 wides : Int
 noballs : Int
 byes : Int
 legbyes : Int
 pens : Int
 complete : Int
 inover : Int
 striker : Int
 other : Int
 batters : Rows
 bowler : Int
 bowlers : Rows
 before : Rows
 fresh : Bool
 bowled : Rows
 freehit : Bool
 ballage : Int
 keeper : Int
 outside : Int
 subs : Rows
 rev1 : Int
 rev2 : Int
 ending : Int
structure Rul where
 name : ByteArray
 side : Int
 innings : Int
 overs : Int
 balls : Int
 quota : Int
 wide : Int
 noball : Int
 freehit : Bool
 newball : Int
 followon : Int
 reviews : Int
 outside : Int
 power : Rows
structure Del where
 type : Int
 source : Int
 runs : Int
 short : Int
 boundary : Int
 crossed : Bool
 how : Int
 victim : Int
 fielder : Int
 second : Int
 sub : Bool
 sector : Int
structure Ev where
 kind : Int
 side : Int
 player : Int
 other : Int
 yes : Bool
 runs : Int
 overs : Int
 ball : Del
def Inn.ls (s : Inn) : List PV := [.int s.side, .int s.target, .int s.overs, .int s.runs, .int s.wickets, .int s.wides, .int s.noballs, .int s.byes, .int s.legbyes, .int s.pens, .int s.complete, .int s.inover, .int s.striker, .int s.other, .rows s.batters, .int s.bowler, .rows s.bowlers, .rows s.before, .bool s.fresh, .rows s.bowled, .bool s.freehit, .int s.ballage, .int s.keeper, .int s.outside, .rows s.subs, .int s.rev1, .int s.rev2, .int s.ending]
def Rul.ls (r : Rul) : List PV := [.str r.name, .int r.side, .int r.innings, .int r.overs, .int r.balls, .int r.quota, .int r.wide, .int r.noball, .bool r.freehit, .int r.newball, .int r.followon, .int r.reviews, .int r.outside, .rows r.power]
def Del.ls (d : Del) : List PV := [.int d.type, .int d.source, .int d.runs, .int d.short, .int d.boundary, .bool d.crossed, .int d.how, .int d.victim, .int d.fielder, .int d.second, .bool d.sub, .int d.sector]
def ZL (x : Inn × Int) : List PV := [.int x.1.side, .int x.1.target, .int x.1.overs, .int x.1.runs, .int x.1.wickets, .int x.1.wides, .int x.1.noballs, .int x.1.byes, .int x.1.legbyes, .int x.1.pens, .int x.1.complete, .int x.1.inover, .int x.1.striker, .int x.1.other, .rows x.1.batters, .int x.1.bowler, .rows x.1.bowlers, .rows x.1.before, .bool x.1.fresh, .rows x.1.bowled, .bool x.1.freehit, .int x.1.ballage, .int x.1.keeper, .int x.1.outside, .rows x.1.subs, .int x.1.rev1, .int x.1.rev2, .int x.1.ending, .int x.2]
structure Fit (bt bw bf bd sb : Rows) : Prop where
 bt : bt.length ≤ 1048576
 bw : bw.length ≤ 1048576
 bf : bf.length ≤ 1048576
 bd : bd.length ≤ 1048576
 sb : sb.length ≤ 1048576
abbrev Inn.Fit (s : Inn) : Prop := Px.Fit s.batters s.bowlers s.before s.bowled s.subs
theorem ZQ (b : Bool) (x y z : Int) : (cond b x y == z) = cond b (x == z) (y == z) := by cases b <;> rfl
theorem Y0 (b : Bool) (x y : Int) : cond b [PV.int x] [PV.int y] = [PV.int (cond b x y)] := by cases b <;> rfl
theorem VD : ((0 : Nat) : Int) = 0 := rfl
theorem Yu : ((1 : Nat) : Int) = 1 := rfl
theorem Y5 : ((2 : Nat) : Int) = 2 := rfl
theorem Y1 : ((3 : Nat) : Int) = 3 := rfl
theorem YW (b x : Bool) : cond b b x = (b || x) := by cases b <;> rfl
theorem Inn.eta (s : Inn) : Inn.mk s.side s.target s.overs s.runs s.wickets s.wides s.noballs s.byes s.legbyes s.pens s.complete s.inover s.striker s.other s.batters s.bowler s.bowlers s.before s.fresh s.bowled s.freehit s.ballage s.keeper s.outside s.subs s.rev1 s.rev2 s.ending = s := rfl
theorem Rul.eta (r : Rul) : Rul.mk r.name r.side r.innings r.overs r.balls r.quota r.wide r.noball r.freehit r.newball r.followon r.reviews r.outside r.power = r := rfl
def ix (p : Int) : Nat := (IntKind.i64.wrap (p - 1)).toNat
def JP (L : Rows) : Bool := Ae (fun i => !(atI L i 0 == 0)) L.length 0
theorem V5 {v : Int} (h : (v == 1) = true) : (v == 2) = false := by
 have := beq_iff_eq.1 h
 rw [beq_eq_false_iff_ne]; omega
theorem PXm : (∀ (b : Bool) (x y : List PV), cond b (some x) (some y) = some (cond b x y)) ∧ (∀ {α : Type} (b : Bool) (x : α), cond b x x = x) ∧ (∀ b x : Bool, cond b b x = (b || x)) ∧ (((0 : Nat) : Int) = 0) ∧ (((1 : Nat) : Int) = 1) ∧ (((2 : Nat) : Int) = 2) ∧ (((3 : Nat) : Int) = 3) ∧
    (∀ (b : Bool) (x y : Int), cond b [PV.int x] [PV.int y] = [PV.int (cond b x y)]) ∧ (∀ (b x y : Bool), cond b [PV.bool x] [PV.bool y] = [PV.bool (cond b x y)]) ∧ (∀ {α : Type} (l : List α) (i : Nat) (a : α), (l.set i a).length = l.length) ∧
    (∀ (b : Bool) (x y z : Int), (cond b x y == z) = cond b (x == z) (y == z)) ∧ (∀ x : Int, (x == x) = true) ∧ (∀ x : Bool, (x == x) = true) ∧
    (∀ s : Inn, s.ls = [.int s.side, .int s.target, .int s.overs, .int s.runs, .int s.wickets, .int s.wides, .int s.noballs, .int s.byes, .int s.legbyes, .int s.pens, .int s.complete, .int s.inover, .int s.striker, .int s.other, .rows s.batters, .int s.bowler, .rows s.bowlers, .rows s.before, .bool s.fresh, .rows s.bowled, .bool s.freehit, .int s.ballage, .int s.keeper, .int s.outside, .rows s.subs, .int s.rev1, .int s.rev2, .int s.ending]) ∧
    (∀ x : Inn × Int, ZL x = [.int x.1.side, .int x.1.target, .int x.1.overs, .int x.1.runs, .int x.1.wickets, .int x.1.wides, .int x.1.noballs, .int x.1.byes, .int x.1.legbyes, .int x.1.pens, .int x.1.complete, .int x.1.inover, .int x.1.striker, .int x.1.other, .rows x.1.batters, .int x.1.bowler, .rows x.1.bowlers, .rows x.1.before, .bool x.1.fresh, .rows x.1.bowled, .bool x.1.freehit, .int x.1.ballage, .int x.1.keeper, .int x.1.outside, .rows x.1.subs, .int x.1.rev1, .int x.1.rev2, .int x.1.ending, .int x.2]) ∧
    (∀ s : Inn, Inn.mk s.side s.target s.overs s.runs s.wickets s.wides s.noballs s.byes s.legbyes s.pens s.complete s.inover s.striker s.other s.batters s.bowler s.bowlers s.before s.fresh s.bowled s.freehit s.ballage s.keeper s.outside s.subs s.rev1 s.rev2 s.ending = s) ∧
    (∀ r : Rul, Rul.mk r.name r.side r.innings r.overs r.balls r.quota r.wide r.noball r.freehit r.newball r.followon r.reviews r.outside r.power = r) :=
  ⟨Yq, Yx, YW, VD, Yu, Y5, Y1, Y0, Y2, fun _ _ _ => List.length_set, ZQ, fun _ => beq_self_eq_true _, fun _ => beq_self_eq_true _, fun _ => rfl, fun _ => rfl, Inn.eta, Rul.eta⟩
end Go.Px
end
