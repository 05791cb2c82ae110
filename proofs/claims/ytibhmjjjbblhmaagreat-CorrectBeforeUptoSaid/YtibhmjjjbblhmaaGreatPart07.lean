/- Part 7. -/
import Derived.Test.YtibhmjjjbblhmaaGreatPart06
set_option linter.unusedVariables false
set_option linter.unusedSimpArgs false
section
namespace Go.Px
def rI (xs : List Int) : Rows := xs.map fun n => [PV.int n]
def rB (xs : List Bool) : Rows := xs.map fun n => [PV.bool n]
theorem G2 {n : Int} (h1 : -9223372036854775808 ≤ n) (h2 : n ≤ 9223372036854775807) : IntKind.i64.wrap n = n := by
 unfold IntKind.wrap
 simp [IntKind.signed, IntKind.bits]
 omega
theorem AE (b : Bool) (x y : List PV) (k : List PV → Option (List PV)) : (cond b (some x) (some y) : Option (List PV)).bind k = k (cond b x y) := by cases b <;> rfl
theorem jM (b : Bool) (x y : List PV) (j : Nat) : pvB (AF (cond b x y) j) = cond b (pvB (AF x j)) (pvB (AF y j)) := by cases b <;> rfl
theorem jG (b : Bool) (x y : List PV) (j : Nat) : pvI (AF (cond b x y) j) = cond b (pvI (AF x j)) (pvI (AF y j)) := by cases b <;> rfl
theorem jL (b : Bool) (x y : List PV) (j : Nat) : pvS (AF (cond b x y) j) = cond b (pvS (AF x j)) (pvS (AF y j)) := by cases b <;> rfl
theorem jR (b : Bool) (x y : List PV) (j : Nat) : pvL (AF (cond b x y) j) = cond b (pvL (AF x j)) (pvL (AF y j)) := by cases b <;> rfl
theorem Xn (b p : Bool) : cond b p false = (b && p) := by cases b <;> rfl
theorem ja (b p : Bool) : cond b true p = (b || p) := by cases b <;> rfl
theorem ia (b p : Bool) : cond b false p = (!b && p) := by cases b <;> rfl
theorem jO (b p : Bool) : cond b p true = (!b || p) := by cases b <;> rfl
theorem iX (b : Bool) (x y : List PV) : cond b (some x) (some y) = some (cond b x y) := by cases b <;> rfl
theorem ij {α : Type} (b : Bool) (x : α) : cond b x x = x := by cases b <;> rfl
theorem i6 (b p q : Bool) : cond b [PV.bool p] [PV.bool q] = [PV.bool (cond b p q)] := by cases b <;> rfl
theorem Ys (p : PV) (r : List PV) : AF (p :: r) 0 = p := rfl
theorem fL (p : PV) (r : List PV) (j : Nat) : AF (p :: r) (j + 1) = AF r j := by simp [AF]
def R1 {St : Type} (body : Nat → St → List PV ⊕ St) (fin : St → List PV) : Nat → Nat → St → List PV
 | 0, _, s => fin s
 | k + 1, i, s => match body i s with
  | .inl r => r
  | .inr s' => R1 body fin k (i + 1) s'
theorem Tg {St : Type} {F : (List Aa → Option (List PV)) → List PV → Option (List PV)} {len : Nat} {enc : Nat → St → List Aa} {body : Nat → St → List PV ⊕ St} {fin : St → List PV} (I : Nat → St → Prop)
    (h0 : ∀ s self, I len s → F self ((enc len s).map Leaf.pv) = some (fin s))
    (h1 : ∀ i s self, i < len → I i s → F self ((enc i s).map Leaf.pv) = (match body i s with | .inl r => some r | .inr s' => self (enc (i + 1) s')) ∧ ∀ s', body i s = .inr s' → I (i + 1) s') :
    ∀ (k i : Nat) (s : St) (n : Nat), i + k = len → k < n → I i s → HP F n ((enc i s).map Leaf.pv) = some (R1 body fin k i s)
  | 0, i, s, n, hk, hn, hi => by
    obtain ⟨n, rfl⟩ : ∃ m, n = m + 1 := ⟨n - 1, by omega⟩
    obtain rfl : i = len := by omega
    exact h0 s _ hi
  | k + 1, i, s, n, hk, hn, hi => by
    obtain ⟨n, rfl⟩ : ∃ m, n = m + 1 := ⟨n - 1, by omega⟩
    obtain ⟨h2, h3⟩ := h1 i s (fun ls => HP F n (ls.map Leaf.pv)) (by omega) hi
    show F _ _ = _
    rw [h2]
    simp only [R1]
    cases hb : body i s with
    | inl r => rfl
    | inr s' => exact Tg I h0 h1 k (i + 1) s' n (by omega) (by omega) (h3 s' hb)
theorem Ab {F : (List Aa → Option (List PV)) → List PV → Option (List PV)} {n : Nat} {c r : List PV} {k : List PV → Option (List PV)} {g : Option (List PV)} (h : HP F n c = some r) (hk : k r = g) : (HP F n c).bind k = g := by
 rw [h]; exact hk
def Bp (ans : Nat → Option (List PV)) : Nat → Nat → Option (List PV)
 | 0, _ => none
 | k + 1, i => match ans i with
  | some r => some r
  | none => Bp ans k (i + 1)
def Ut : Option (List PV) → List PV
 | some r => .int 0 :: r
 | none => [.int 1]
theorem Co {F : (List Aa → Option (List PV)) → List PV → Option (List PV)} {len : Nat} (ans : Nat → Option (List PV))
    (h0 : ∀ self, F self [.int (len : Int)] = some [.int 1]) (h1 : ∀ i self, i < len → F self [.int (i : Int)] = match ans i with | some r => some (.int 0 :: r) | none => self [.int ((i : Int) + 1)]) :
    ∀ (k i n : Nat), i + k = len → k < n → HP F n [.int (i : Int)] = some (Ut (Bp ans k i))
  | 0, i, n, hk, hn => by
    obtain ⟨n, rfl⟩ : ∃ m, n = m + 1 := ⟨n - 1, by omega⟩
    obtain rfl : i = len := by omega
    exact h0 _
  | k + 1, i, n, hk, hn => by
    obtain ⟨n, rfl⟩ : ∃ m, n = m + 1 := ⟨n - 1, by omega⟩
    have h2 := h1 i (fun ls => HP F n (ls.map Leaf.pv)) (by omega)
    show F _ _ = _
    rw [h2]
    simp only [Bp]
    cases ha : ans i with
    | some r => rfl
    | none =>
      have := Co ans h0 h1 k (i + 1) n (by omega) (by omega)
      show HP F n [.int ((i : Int) + 1)] = _
      rw [show ((i : Int) + 1) = (((i + 1 : Nat)) : Int) by omega]
      exact this
def Ay (bad : Nat → Bool) (k i : Nat) : Bool := (List.range' i k).any bad
theorem Ho (bad : Nat → Bool) (i : Nat) : Ay bad 0 i = false := rfl
theorem Bh (bad : Nat → Bool) (k i : Nat) : Ay bad (k + 1) i = (bad i || Ay bad k (i + 1)) := by simp only [Ay, List.range'_succ, List.any_cons]
theorem ZB (bad : Nat → Bool) (r : List PV) : ∀ (k i : Nat), Bp (fun j => cond (bad j) (some r) none) k i = cond (Ay bad k i) (some r) none
 | 0, i => rfl
 | k + 1, i => by
  rw [Bh]
  simp only [Bp]
  cases hb : bad i with
  | true => rfl
  | false => rw [Bool.false_or]; exact ZB bad r k (i + 1)
theorem W2 {f g : Nat → Bool} : ∀ (k i : Nat), (∀ j, i ≤ j → j < i + k → f j = g j) → Ay f k i = Ay g k i
 | 0, i, _ => rfl
 | k + 1, i, h => by rw [Bh, Bh, h i (Nat.le_refl _) (by omega), W2 k (i + 1) (fun j h1 h2 => h j (by omega) (by omega))]
theorem FT {f : Nat → Bool} {k i : Nat} : Ay f k i = false ↔ ∀ j, i ≤ j → j < i + k → f j = false := by
 induction k generalizing i with
 | zero => simp [Ho]; intro j h1 h2; omega
 | succ k ih =>
  rw [Bh, Bool.or_eq_false_iff, ih]
  constructor
  ·intro ⟨h1, h2⟩ j h3 h4
   rcases Nat.lt_or_ge i j with h | h
   ·exact h2 j h (by omega)
   ·obtain rfl : j = i := by omega
    exact h1
  ·intro h; exact ⟨h i (Nat.le_refl _) (by omega), fun j h1 h2 => h j (by omega) (by omega)⟩
theorem EO {F : (List Aa → Option (List PV)) → List PV → Option (List PV)} {len : Nat} (bad : Nat → Bool) (r : List PV)
    (h0 : ∀ self, F self [.int (len : Int)] = some [.int 1]) (h1 : ∀ i self, i < len → F self [.int (i : Int)] = cond (bad i) (some (.int 0 :: r)) (self [.int ((i : Int) + 1)])) (n : Nat) (hn : len < n) :
    HP F n [.int 0] = some (cond (Ay bad len 0) (.int 0 :: r) [.int 1]) := by
  have := Co (F := F) (len := len) (fun j => cond (bad j) (some r) none) h0 (fun i self hi => by rw [h1 i self hi]; cases bad i <;> rfl) len 0 n (by omega) hn
  rw [show (0 : Int) = ((0 : Nat) : Int) from rfl, this, ZB]
  cases Ay bad len 0 <;> rfl
theorem Ah {i : Nat} (h : i ≤ 1099511627776) : IntKind.i64.wrap ((i : Int) + 1) = (i : Int) + 1 := G2 (by omega) (by omega)
theorem Af {i len : Nat} (h : i < len) : iIn (i : Int) (len : Int) = true := by simp [iIn]; omega
theorem BA {i len : Nat} (h : i < len) : iLt (i : Int) (len : Int) = true := by simp [iLt]; omega
theorem BP (len : Nat) : iLt (len : Int) (len : Int) = false := by simp [iLt]
theorem aK {F : (List Aa → Option (List PV)) → List PV → Option (List PV)} {len : Nat} (enc : Nat → List Aa) (bad : Nat → Bool) (r fin : List PV)
    (h0 : ∀ self, F self ((enc len).map Leaf.pv) = some fin) (h1 : ∀ i self, i < len → F self ((enc i).map Leaf.pv) = cond (bad i) (some r) (self (enc (i + 1)))) (n : Nat) (hn : len < n) :
    HP F n ((enc 0).map Leaf.pv) = some (cond (Ay bad len 0) r fin) := by
  have main : ∀ (k i n : Nat), i + k = len → k < n → HP F n ((enc i).map Leaf.pv) = some (cond (Ay bad k i) r fin) := by
    intro k
    induction k with
    | zero =>
      intro i n hk hn
      obtain ⟨n, rfl⟩ : ∃ m, n = m + 1 := ⟨n - 1, by omega⟩
      obtain rfl : i = len := by omega
      exact h0 _
    | succ k ih =>
      intro i n hk hn
      obtain ⟨n, rfl⟩ : ∃ m, n = m + 1 := ⟨n - 1, by omega⟩
      show F _ _ = _
      rw [h1 i _ (by omega), Bh]
      cases bad i with
      | true => rfl
      | false => exact ih (i + 1) n (by omega) (by omega)
  exact main len 0 n (by omega) hn
theorem cp (k i : Nat) : Ay (fun _ => false) k i = false := FT.2 fun _ _ _ => rfl
theorem MQ {F : (List Aa → Option (List PV)) → List PV → Option (List PV)} {len : Nat} (enc : Nat → List Aa) (fin : List PV)
    (h0 : ∀ self, F self ((enc len).map Leaf.pv) = some fin) (h1 : ∀ i self, i < len → F self ((enc i).map Leaf.pv) = self (enc (i + 1))) (n : Nat) (hn : len < n) :
    HP F n ((enc 0).map Leaf.pv) = some fin := by
  have := aK (F := F) enc (fun _ => false) [] fin h0 h1 n hn
  rw [cp] at this
  exact this
def FZ (p : Nat → Bool) : Nat → Option (List PV) := fun j => cond (p j) (some [.int (j : Int)]) none
def NL (p : Nat → Bool) (k : Nat) : Int := match Bp (FZ p) k 0 with
 | some r => pvI (AF r 0)
 | none => -1
theorem VQ (p : Nat → Bool) : ∀ k i, iLe 0 (match Bp (FZ p) k i with | some r => pvI (AF r 0) | none => -1) = Ay p k i
 | 0, i => rfl
 | k + 1, i => by
  rw [Bh]
  simp only [Bp, FZ]
  cases h : p i with
  | true => simp only [cond_true, Ys, Bool.true_or, pvI, iLe]; simp
  | false => rw [Bool.false_or]; exact VQ p k (i + 1)
theorem IV (p : Nat → Bool) (k : Nat) : iLe 0 (NL p k) = Ay p k 0 := VQ p k 0
theorem jF {i len : Nat} (h : i ≤ len) : iRg 0 (i : Int) (len : Int) = true := by simp [iRg]; omega
theorem Kw {n b : Nat} (h : n ≤ 4194304) (hb : b ≤ 4096) : iSm (n : Int) b = true := by
 have : n * b ≤ 4194304 * 4096 := Nat.mul_le_mul h hb
 simp only [iSm, decide_eq_true_eq]
 refine ⟨by omega, by omega, ?_, by omega⟩
 rw [← Int.natCast_mul]; omega
def atI (L : Rows) (i j : Nat) : Int := pvI (AG L i j)
theorem CT (L : Rows) (i j : Nat) : pvI (AG L i j) = atI L i j := rfl
theorem gX {L : Rows} {i j k : Nat} (h : j < i) : atI (L.take i) j k = atI L j k := by
 unfold atI AG A6
 simp only [List.getD_eq_getElem?_getD]
 rw [List.getElem?_take_of_lt h]
def CD (p : Nat → Bool) : Nat → Int
 | 0 => 0
 | i + 1 => cond (p i) (CD p i + 1) (CD p i)
theorem eN (p : Nat → Bool) : ∀ i, 0 ≤ CD p i ∧ CD p i ≤ (i : Int)
 | 0 => by simp [CD]
 | i + 1 => by
  have := eN p i
  unfold CD
  cases p i <;> simp only [cond_true, cond_false] <;> omega
theorem Z0 (p : Nat → Bool) {i : Nat} (h : i ≤ 1099511627776) : IntKind.i64.wrap (CD p i + 1) = CD p i + 1 := by
 have := eN p i
 exact G2 (by omega) (by omega)
theorem Y4 {p q : Nat → Bool} : ∀ i, (∀ j, j < i → p j = q j) → CD p i = CD q i
 | 0, _ => rfl
 | i + 1, h => by
  unfold CD
  rw [h i (by omega), Y4 i (fun j hj => h j (by omega))]
theorem bA {p q : Nat → Bool} : ∀ i, (∀ j, j < i → p j = true → q j = true) → CD p i ≤ CD q i
 | 0, _ => by simp [CD]
 | i + 1, h => by
  have h1 := bA i (fun j hj => h j (by omega))
  have h2 := h i (by omega)
  unfold CD
  cases hp : p i with
  | true => rw [h2 hp]; simp only [cond_true]; omega
  | false => cases q i <;> simp only [cond_true, cond_false] <;> omega
theorem eX {p q : Nat → Bool} : ∀ i, (∀ j, j < i → p j = true → q j = true) → CD p i = CD q i → ∀ j, j < i → p j = q j
 | 0, _, _ => fun j hj => by omega
 | i + 1, h, he => by
  have h1 := bA i (fun j hj => h j (by omega))
  have h2 := h i (by omega)
  unfold CD at he
  intro j hj
  have hpq : p i = q i ∧ CD p i = CD q i := by
   cases hp : p i with
   | true =>
    have hq := h2 hp
    rw [hp, hq] at he; simp only [cond_true] at he
    exact ⟨hq.symm, by omega⟩
   | false =>
    cases hq : q i with
    | true => rw [hp, hq] at he; simp only [cond_true, cond_false] at he; omega
    | false => rw [hp, hq] at he; simp only [cond_false] at he; exact ⟨rfl, he⟩
  rcases Nat.lt_or_ge j i with hji | hji
  ·exact eX i (fun j hj => h j (by omega)) hpq.2 j hji
  ·obtain rfl : j = i := by omega
   exact hpq.1
theorem eM {p q : Nat → Bool} : ∀ i, (∀ j, j < i → p j = true → q j = false) → CD (fun j => p j || q j) i = CD p i + CD q i
 | 0, _ => rfl
 | i + 1, h => by
  have h1 := eM i (fun j hj => h j (by omega))
  have h2 := h i (by omega)
  unfold CD
  rw [h1]
  cases hp : p i with
  | true => rw [h2 hp]; simp only [Bool.true_or, cond_true, cond_false]; omega
  | false => cases q i <;> simp only [Bool.false_or, cond_true, cond_false] <;> omega
theorem bN (s : Int) : ∀ (i : Nat), 0 ≤ s → CD (fun j => s == (j : Int) + 1) i = cond (!(s == 0) && iLe s (i : Int)) 1 0
 | 0, hs => by
  have : (!(s == 0) && iLe s ((0 : Nat) : Int)) = false := by
   rw [Bool.and_eq_false_iff]
   by_cases h : s = 0
   ·subst h; exact .inl rfl
   ·exact .inr (by simp only [iLe, decide_eq_false_iff_not]; omega)
  rw [this]; rfl
 | i + 1, hs => by
  unfold CD
  rw [bN s i hs]
  by_cases h : s = (i : Int) + 1
  ·have e1 : (s == (i : Int) + 1) = true := by simp [h]
   have e2 : iLe s (i : Int) = false := by simp only [iLe, decide_eq_false_iff_not]; omega
   have e3 : iLe s ((i + 1 : Nat) : Int) = true := by simp only [iLe, decide_eq_true_eq]; omega
   have e4 : (s == 0) = false := by simp only [beq_eq_false_iff_ne]; omega
   rw [e1, e2, e3, e4]; rfl
  ·have e1 : (s == (i : Int) + 1) = false := by simp [h]
   have e2 : iLe s (i : Int) = iLe s ((i + 1 : Nat) : Int) := by
    unfold iLe
    rw [Bool.eq_iff_iff, decide_eq_true_eq, decide_eq_true_eq]; omega
   rw [e1, e2]; rfl
theorem Ue (f : Nat → Bool) : ∀ (k i : Nat), Ay f (k + 1) i = (Ay f k i || f (i + k))
 | 0, i => by rw [Bh, Ho, Ho]; simp
 | k + 1, i => by rw [Bh, Ue f k (i + 1), Bh f k i, Bool.or_assoc]; congr 3; omega
theorem XV (f : Nat → Bool) : ∀ (k i : Nat), Ay f k (i + 1) = Ay (fun j => f (j + 1)) k i
 | 0, i => rfl
 | k + 1, i => by rw [Bh, Bh, XV f k (i + 1)]
def Iy (p : Int → Bool) (L : Rows) : Bool := Ay (fun i => p (atI L i 0)) L.length 0
theorem L1 (p : Int → Bool) : ∀ (L : Rows), Iy p L = L.any fun r => p (pvI (AF r 0))
 | [] => rfl
 | r :: L => by
  have ih := L1 p L
  unfold Iy at ih ⊢
  rw [List.length_cons, Bh, XV, List.any_cons, ← ih]
  rfl
theorem aU (p : Int → Bool) (a b : Rows) : Iy p (a ++ b) = (Iy p a || Iy p b) := by
 rw [L1, L1, L1, List.any_append]
theorem PXb : (∀ {α β : Type} (f : α → β) (a : α) (l : List α), List.map f (a :: l) = f a :: List.map f l) ∧ (∀ {α β : Type} (f : α → β), List.map f [] = []) ∧
    (∀ i : Int, Leaf.pv (.int i : Aa) = .int i) ∧ (∀ i : Bool, Leaf.pv (.bool i : Aa) = .bool i) ∧ (∀ i : ByteArray, Leaf.pv (.str i : Aa) = .str i) ∧ (∀ i : Rows, Leaf.pv (.rows i : Aa) = .rows i) ∧
    (∀ {α β : Type} (a : α) (f : α → Option β), (some a).bind f = f a) ∧ (∀ (p : PV) (r : List PV), AF (p :: r) 0 = p) ∧ (∀ (p : PV) (r : List PV) (j : Nat), AF (p :: r) (j + 1) = AF r j) ∧
    (∀ n : Int, pvI (.int n) = n) ∧ (∀ n : Bool, pvB (.bool n) = n) ∧ (∀ n : ByteArray, pvS (.str n) = n) ∧ (∀ n : Rows, pvL (.rows n) = n) ∧
    (∀ b p : Bool, cond b p false = (b && p)) ∧ (∀ b p : Bool, cond b true p = (b || p)) ∧ (∀ {α : Type} (a b : α), cond true a b = a) ∧ (∀ {α : Type} (a b : α), cond false a b = b) ∧
    (∀ a b : Bool, (a && (a && b)) = (a && b)) ∧ (∀ a : Bool, (a && a) = a) ∧ (∀ a b : Bool, (a || (a || b)) = (a || b)) ∧ (∀ a : Bool, (a || a) = a) ∧
    (∀ a : Bool, (a || true) = true) ∧ (∀ a : Bool, (a || false) = a) ∧ (∀ a : Bool, (true || a) = true) ∧ (∀ a : Bool, (false || a) = a) ∧
    (∀ a : Bool, (a && true) = a) ∧ (∀ a : Bool, (a && false) = false) ∧ (∀ a : Bool, (true && a) = a) ∧ (∀ a : Bool, (false && a) = false) ∧ ((!true) = false) ∧ ((!false) = true) ∧ (∀ a : Bool, (!(!a)) = a) ∧
    (∀ n : Nat, (n : Int).toNat = n) ∧ (∀ {O : Alg} (x : Ags O) (j : Nat), xr x [] j = []) ∧
    (∀ {O : Alg} (x : Ags O) (ks : List Nat) (j : Nat), xr x (0 :: ks) j = .int (x.I j) :: xr x ks (j + 1)) ∧ (∀ {O : Alg} (x : Ags O) (ks : List Nat) (j : Nat), xr x (1 :: ks) j = .bool (x.B j) :: xr x ks (j + 1)) ∧
    (∀ {O : Alg} (x : Ags O) (ks : List Nat) (j : Nat), xr x (2 :: ks) j = .str (x.S j) :: xr x ks (j + 1)) ∧ (∀ {O : Alg} (x : Ags O) (ks : List Nat) (j : Nat), xr x (3 :: ks) j = .rows (x.L j) :: xr x ks (j + 1)) ∧
    (∀ (O : Alg) (c : O.C) (j : Nat), cr O c [] j = []) ∧ (∀ (O : Alg) (c : O.C) (ks : List Nat) (j : Nat), cr O c (0 :: ks) j = .int (O.cI c j) :: cr O c ks (j + 1)) ∧ (∀ (O : Alg) (c : O.C) (ks : List Nat) (j : Nat), cr O c (1 :: ks) j = .bool (O.cB c j) :: cr O c ks (j + 1)) ∧
    (∀ (O : Alg) (c : O.C) (ks : List Nat) (j : Nat), cr O c (2 :: ks) j = .str (O.cS c j) :: cr O c ks (j + 1)) ∧ (∀ (O : Alg) (c : O.C) (ks : List Nat) (j : Nat), cr O c (3 :: ks) j = .rows (O.cL c j) :: cr O c ks (j + 1)) ∧
    (∀ (O : Alg) (l : O.L) (i : O.I) (j : Nat), rr O l i [] j = []) ∧ (∀ (O : Alg) (l : O.L) (i : O.I) (ks : List Nat) (j : Nat), rr O l i (0 :: ks) j = .int (O.rI l i j) :: rr O l i ks (j + 1)) ∧ (∀ (O : Alg) (l : O.L) (i : O.I) (ks : List Nat) (j : Nat), rr O l i (1 :: ks) j = .bool (O.rB l i j) :: rr O l i ks (j + 1)) ∧
    (∀ (O : Alg) (l : O.L) (i : O.I) (ks : List Nat) (j : Nat), rr O l i (2 :: ks) j = .str (O.rS l i j) :: rr O l i ks (j + 1)) ∧ (∀ (O : Alg) (l : O.L) (i : O.I) (ks : List Nat) (j : Nat), rr O l i (3 :: ks) j = .rows (O.rL l i j) :: rr O l i ks (j + 1)) ∧
    (kI = [0,0,0,0,0,0,0,0,0,0,0,0,0,0,3,0,3,3,1,3,1,0,0,0,3,0,0,0]) ∧ (kR = [2,0,0,0,0,0,0,0,1,0,0,0,0,3]) ∧ (kM = [2,0,0,0,0,0,0,0,1,0,0,0,0,3,0,0,1,3,0,0,0,0,0]) ∧
    (∀ (O : Alg) (b : List O.Lf), ap O [] b = b) ∧ (∀ (O : Alg) (x : O.Lf) (a b : List O.Lf), ap O (x :: a) b = x :: ap O a b) ∧
    (∀ {α : Type} (x : α) (a b : List α), x :: a ++ b = x :: (a ++ b)) ∧ (∀ {α : Type} (b : List α), [] ++ b = b) := by
  repeat' apply And.intro
  all_goals first | decide | (intros; rfl) | exact fL | exact Xn | exact ja | exact Int.toNat_natCast
theorem PXc : (∀ (b : Bool) (x y : List PV) (j : Nat), pvB (AF (cond b x y) j) = cond b (pvB (AF x j)) (pvB (AF y j))) ∧ (∀ (b : Bool) (x y : List PV) (j : Nat), pvI (AF (cond b x y) j) = cond b (pvI (AF x j)) (pvI (AF y j))) ∧
    (∀ (b : Bool) (x y : List PV) (j : Nat), pvS (AF (cond b x y) j) = cond b (pvS (AF x j)) (pvS (AF y j))) ∧ (∀ (b : Bool) (x y : List PV) (j : Nat), pvL (AF (cond b x y) j) = cond b (pvL (AF x j)) (pvL (AF y j))) := ⟨jM, jG, jL, jR⟩
theorem PXn : (∀ a b : Bool, (!(a || b)) = (!a && !b)) ∧ (∀ a b : Bool, (!(a && b)) = (!a || !b)) ∧ (∀ b p : Bool, cond b false p = (!b && p)) ∧ (∀ b p : Bool, cond b p true = (!b || p)) := ⟨by decide, by decide, ia, jO⟩
end Go.Px
end
section
namespace Go.Px
structure Inn where
 side : Int
 target : Int
 overs : Int
 runs : Int
 wickets : Int
 wides : Int
 noballs : Int
 byes : Int
 legbyes : Int
 pens : Int
 complete : Int
 inover : Int
 striker : Int
 other : Int
 batters : Rows
 bowler : Int
 bowlers : Rows
 before : Rows
 fresh : Bool
 bowled : Rows
 freehit : Bool
 ballage : Int
 keeper : Int
 outside : Int
 subs : Rows
 rev1 : Int
 rev2 : Int
 ending : Int
structure Rul where
 name : ByteArray
 side : Int
 innings : Int
 overs : Int
 balls : Int
 quota : Int
 wide : Int
 noball : Int
 freehit : Bool
 newball : Int
 followon : Int
 reviews : Int
 outside : Int
 power : Rows
structure Del where
 type : Int
 source : Int
 runs : Int
 short : Int
 boundary : Int
 crossed : Bool
 how : Int
 victim : Int
 fielder : Int
 second : Int
 sub : Bool
 sector : Int
structure Ev where
 kind : Int
 side : Int
 player : Int
 other : Int
 yes : Bool
 runs : Int
 overs : Int
 ball : Del
def Inn.ls (s : Inn) : List PV := [.int s.side, .int s.target, .int s.overs, .int s.runs, .int s.wickets, .int s.wides, .int s.noballs, .int s.byes, .int s.legbyes, .int s.pens, .int s.complete, .int s.inover, .int s.striker, .int s.other, .rows s.batters, .int s.bowler, .rows s.bowlers, .rows s.before, .bool s.fresh, .rows s.bowled, .bool s.freehit, .int s.ballage, .int s.keeper, .int s.outside, .rows s.subs, .int s.rev1, .int s.rev2, .int s.ending]
def Rul.ls (r : Rul) : List PV := [.str r.name, .int r.side, .int r.innings, .int r.overs, .int r.balls, .int r.quota, .int r.wide, .int r.noball, .bool r.freehit, .int r.newball, .int r.followon, .int r.reviews, .int r.outside, .rows r.power]
def Del.ls (d : Del) : List PV := [.int d.type, .int d.source, .int d.runs, .int d.short, .int d.boundary, .bool d.crossed, .int d.how, .int d.victim, .int d.fielder, .int d.second, .bool d.sub, .int d.sector]
def A2 (x : Inn × Int) : List PV := [.int x.1.side, .int x.1.target, .int x.1.overs, .int x.1.runs, .int x.1.wickets, .int x.1.wides, .int x.1.noballs, .int x.1.byes, .int x.1.legbyes, .int x.1.pens, .int x.1.complete, .int x.1.inover, .int x.1.striker, .int x.1.other, .rows x.1.batters, .int x.1.bowler, .rows x.1.bowlers, .rows x.1.before, .bool x.1.fresh, .rows x.1.bowled, .bool x.1.freehit, .int x.1.ballage, .int x.1.keeper, .int x.1.outside, .rows x.1.subs, .int x.1.rev1, .int x.1.rev2, .int x.1.ending, .int x.2]
structure Fit (bt bw bf bd sb : Rows) : Prop where
 bt : bt.length ≤ 1048576
 bw : bw.length ≤ 1048576
 bf : bf.length ≤ 1048576
 bd : bd.length ≤ 1048576
 sb : sb.length ≤ 1048576
theorem Fit.bw' {bt bw bf bd sb : Rows} (h : Fit bt bw bf bd sb) : bw.length ≤ 1048576 := h.bw
theorem ig {L : Rows} {b : Nat} (h : L.length ≤ 1048576) (hb : b ≤ 4096) : iSm (L.length : Int) b = true := Kw (by omega) hb
abbrev Inn.Fit (s : Inn) : Prop := Px.Fit s.batters s.bowlers s.before s.bowled s.subs
def inR (p : Int) (n : Nat) : Bool := iLe 1 p && iLe p (n : Int)
theorem Jr {p : Int} {n : Nat} (h : inR p n = true) (hn : n ≤ 1048576) : iIn (IntKind.i64.wrap (p - 1)) (n : Int) = true := by
 simp only [inR, iLe, Bool.and_eq_true, decide_eq_true_eq] at h
 rw [G2 (by omega) (by omega)]
 simp only [iIn, decide_eq_true_eq]; omega
theorem ib (b : Bool) (x y z : Int) : (cond b x y == z) = cond b (x == z) (y == z) := by cases b <;> rfl
theorem iw (b : Bool) (x y : Int) : cond b [PV.int x] [PV.int y] = [PV.int (cond b x y)] := by cases b <;> rfl
theorem JT : ((0 : Nat) : Int) = 0 := rfl
theorem Zq : ((1 : Nat) : Int) = 1 := rfl
theorem ir : ((2 : Nat) : Int) = 2 := rfl
theorem ic : ((3 : Nat) : Int) = 3 := rfl
theorem YA {a b c : Int} (h : (a == b) = true) (hbc : (b == c) = false) : (a == c) = false := by rw [beq_iff_eq.1 h]; exact hbc
theorem gu (b x : Bool) : cond b b x = (b || x) := by cases b <;> rfl
theorem Inn.eta (s : Inn) : Inn.mk s.side s.target s.overs s.runs s.wickets s.wides s.noballs s.byes s.legbyes s.pens s.complete s.inover s.striker s.other s.batters s.bowler s.bowlers s.before s.fresh s.bowled s.freehit s.ballage s.keeper s.outside s.subs s.rev1 s.rev2 s.ending = s := rfl
theorem Rul.eta (r : Rul) : Rul.mk r.name r.side r.innings r.overs r.balls r.quota r.wide r.noball r.freehit r.newball r.followon r.reviews r.outside r.power = r := rfl
theorem iv {p : Int} {n : Nat} {X Y : Option (List PV)} (hn : n ≤ 1048576) : cond (inR p n) (cond (iIn (IntKind.i64.wrap (p - 1)) (n : Int)) X none) Y = cond (inR p n) X Y := by
 cases h : inR p n with
 | false => rfl
 | true => rw [Jr h hn]; rfl
def ix (p : Int) : Nat := (IntKind.i64.wrap (p - 1)).toNat
def MF (L : Rows) (p v : Int) : Rows := L.set (ix p) (B2 (A6 L (ix p)) 0 [.int v])
def gQ (L : Rows) (p : Int) (v : Bool) : Rows := L.set (ix p) (B2 (A6 L (ix p)) 0 [.bool v])
theorem KA (L : Rows) (p v : Int) : (MF L p v).length = L.length := by simp [MF]
theorem fk (L : Rows) (p : Int) (v : Bool) : (gQ L p v).length = L.length := by simp [gQ]
theorem BB {L : Rows} {b : Nat} (h : L.length ≤ 1048576) (hb : b ≤ 4096) : LT b [.rows L] = some [.rows L] := by
 have h1 := Kw (n := L.length) (b := b) (by omega) hb
 have : U0 L.length b = true := by
  simp only [iSm, decide_eq_true_eq] at h1
  simp only [U0, decide_eq_true_eq]
  have h2 := h1.2.2.1
  rw [← Int.natCast_mul] at h2
  omega
 simp only [LT, this]
def EM (L : Rows) : Bool := Ay (fun i => !(atI L i 0 == 0)) L.length 0
def LJ (L : Rows) (s n : Int) : Bool := EM L && (s == 0 || n == 0)
def Ec (L : Rows) : Nat → Rows
 | 0 => []
 | i + 1 => cond (atI L i 0 == 0 || atI L i 0 == 3) (Ec L i ++ [[.int ((i : Int) + 1)]]) (Ec L i)
theorem WC (L : Rows) : ∀ i, (Ec L i).length ≤ i
 | 0 => Nat.le_refl _
 | i + 1 => by
  have := WC L i
  unfold Ec
  cases (atI L i 0 == 0 || atI L i 0 == 3)
  ·exact Nat.le_succ_of_le this
  ·simp; exact this
theorem iP {v : Int} (h : (v == 1) = true) : (v == 2) = false := by
 have := beq_iff_eq.1 h
 rw [beq_eq_false_iff_ne]; omega
theorem PXm : (∀ (b : Bool) (x y : List PV), cond b (some x) (some y) = some (cond b x y)) ∧ (∀ {α : Type} (b : Bool) (x : α), cond b x x = x) ∧ (∀ b x : Bool, cond b b x = (b || x)) ∧ (((0 : Nat) : Int) = 0) ∧ (((1 : Nat) : Int) = 1) ∧ (((2 : Nat) : Int) = 2) ∧ (((3 : Nat) : Int) = 3) ∧
    (∀ (b : Bool) (x y : Int), cond b [PV.int x] [PV.int y] = [PV.int (cond b x y)]) ∧ (∀ (b x y : Bool), cond b [PV.bool x] [PV.bool y] = [PV.bool (cond b x y)]) ∧ (∀ {α : Type} (l : List α) (i : Nat) (a : α), (l.set i a).length = l.length) ∧
    (∀ (b : Bool) (x y z : Int), (cond b x y == z) = cond b (x == z) (y == z)) ∧ (∀ x : Int, (x == x) = true) ∧ (∀ x : Bool, (x == x) = true) ∧
    (∀ s : Inn, s.ls = [.int s.side, .int s.target, .int s.overs, .int s.runs, .int s.wickets, .int s.wides, .int s.noballs, .int s.byes, .int s.legbyes, .int s.pens, .int s.complete, .int s.inover, .int s.striker, .int s.other, .rows s.batters, .int s.bowler, .rows s.bowlers, .rows s.before, .bool s.fresh, .rows s.bowled, .bool s.freehit, .int s.ballage, .int s.keeper, .int s.outside, .rows s.subs, .int s.rev1, .int s.rev2, .int s.ending]) ∧
    (∀ x : Inn × Int, A2 x = [.int x.1.side, .int x.1.target, .int x.1.overs, .int x.1.runs, .int x.1.wickets, .int x.1.wides, .int x.1.noballs, .int x.1.byes, .int x.1.legbyes, .int x.1.pens, .int x.1.complete, .int x.1.inover, .int x.1.striker, .int x.1.other, .rows x.1.batters, .int x.1.bowler, .rows x.1.bowlers, .rows x.1.before, .bool x.1.fresh, .rows x.1.bowled, .bool x.1.freehit, .int x.1.ballage, .int x.1.keeper, .int x.1.outside, .rows x.1.subs, .int x.1.rev1, .int x.1.rev2, .int x.1.ending, .int x.2]) ∧
    (∀ s : Inn, Inn.mk s.side s.target s.overs s.runs s.wickets s.wides s.noballs s.byes s.legbyes s.pens s.complete s.inover s.striker s.other s.batters s.bowler s.bowlers s.before s.fresh s.bowled s.freehit s.ballage s.keeper s.outside s.subs s.rev1 s.rev2 s.ending = s) ∧
    (∀ r : Rul, Rul.mk r.name r.side r.innings r.overs r.balls r.quota r.wide r.noball r.freehit r.newball r.followon r.reviews r.outside r.power = r) :=
  ⟨iX, ij, gu, JT, Zq, ir, ic, iw, i6, fun _ _ _ => List.length_set, ib, fun _ => beq_self_eq_true _, fun _ => beq_self_eq_true _, fun _ => rfl, fun _ => rfl, Inn.eta, Rul.eta⟩
end Go.Px
end
