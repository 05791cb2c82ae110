/- Part 9. -/
import Derived.Test.YtapipgdcgmmkaaaGreatPart07
import Derived.Test.YtapipgdcgmmkaaaGreatPart08
set_option linter.unusedVariables false
set_option linter.unusedSimpArgs false
section
namespace Go.Px
set_option maxRecDepth 100000
def btw (a b c : Int) : Bool := iLe b a && iLe a c
theorem Cf (N : Nat) (a b c : Int) : AR N [.int a, .int b, .int c] = some [.bool (btw a b c)] := by
 show some [PV.bool (cond (iLe b a) (iLe a c) false)] = _
 rw [Qa]; rfl
theorem FB (N : Nat) (a b c : Int) : BQ N [.int a, .int b, .int c] = some [.bool (btw a b c)] := by
 show some [PV.bool (cond (iLe b a) (iLe a c) false)] = _
 rw [Qa]; rfl
theorem Vs (N : Nat) (a b c : Int) : I4 N [.int a, .int b, .int c] = some [.bool (btw a b c)] := by
 show some [PV.bool (cond (iLe b a) (iLe a c) false)] = _
 rw [Qa]; rfl
theorem Rx (N : Nat) (a b c : Int) : D2 N [.int a, .int b, .int c] = some [.bool (btw a b c)] := by
 show some [PV.bool (cond (iLe b a) (iLe a c) false)] = _
 rw [Qa]; rfl
def Cl (x1 x2 x3 x4 x5 x6 x7 x9 x10 x11 x12 : Int) : Bool := btw x1 2 11 && btw x2 1 2 && btw x3 0 90 && btw x4 4 8 && btw x5 0 90 && btw x6 1 5 && btw x7 1 5 && btw x9 0 200 && btw x10 0 1000 && btw x11 0 9 && btw x12 0 11
theorem PW (N : Nat) (x0 : ByteArray) (x1 x2 x3 x4 x5 x6 x7 x9 x10 x11 x12 : Int) (x8 : Bool) (x13 : Rows) :
   Ch N [.str x0, .int x1, .int x2, .int x3, .int x4, .int x5, .int x6, .int x7, .bool x8, .int x9, .int x10, .int x11, .int x12, .rows x13] = some [.bool (Cl x1 x2 x3 x4 x5 x6 x7 x9 x10 x11 x12)] := by
  show Dt (std (EL N) N) (xOf _) = _
  have e : ∀ ls, EL N 47 [] ls = BQ N ls := fun ls => rfl
  simp only [Dt, std, xOf, e, FB, PXb, PXc, PXn, AK, Cl]
def Gb (s : ByteArray) (i : Nat) : Bool := !(iLe 65 (E3 s i) && iLe (E3 s i) 90) && ((i : Int) == 0 || ((!(E3 s i == 95) && !(E3 s i == 45)) && (iLt (E3 s i) 48 || iLt 57 (E3 s i))))
def Ec (s : ByteArray) : Bool := !Aa (Gb s) s.size 0 && (iLe 1 s.size && iLe s.size 16)
theorem XD (s : ByteArray) : (CZ s).length = s.size := by
 simp only [CZ, List.length_map, Array.length_toList]; rfl
theorem XP (s : ByteArray) (i : Nat) (h : i < s.size) : pvI (AJ (CZ s) i 0) = E3 s i := by
 unfold AJ A1 AE CZ E3
 simp only [List.getD_eq_getElem?_getD, List.getElem?_map]
 have : i < s.data.toList.length := by simpa using h
 rw [List.getElem?_eq_getElem this]
 simp [List.getElem?_eq_getElem this]
theorem TL (N : Nat) (s : ByteArray) (hN : s.size < N) (hs : s.size ≤ 1048576) : Ei N [.str s] = some [.bool (Ec s)] := by
 show Gp (std (MU N) N) (xOf _) = _
 simp only [Gp, std, xOf, XD, PXb, PXc, PXn, AK]
 refine Ap (B4 (len := s.size) (Gb s) [.bool false] ?_ ?_ N hN) ?_
 ·intro self
  simp only [PXb, PXc, PXn, AK, Bu]
 ·intro i self hi
  simp only [PXb, PXc, PXn, AK, Int.toNat_natCast, XP s i hi, A5 (show i ≤ 1099511627776 by omega), Bc hi, A3 hi, Gb]
 ·unfold Ec
  cases Aa (Gb s) s.size 0 <;> rfl
theorem WK (bs : ByteArray) (i : Nat) (r : List UInt8) : (ByteArray.toList.loop bs i r).length = r.length + (bs.size - i) := by
 induction i, r using ByteArray.toList.loop.induct (bs := bs) with
 | case1 i r h ih => unfold ByteArray.toList.loop; rw [if_pos h, ih]; simp; omega
 | case2 i r h => unfold ByteArray.toList.loop; rw [if_neg h]; simp; omega
theorem QI (bs : ByteArray) : bs.toList.length = bs.size := by
 unfold ByteArray.toList; rw [WK]; simp
theorem Tv (s : ByteArray) : (s.toList == (⟨#[]⟩ : ByteArray).toList) = !iLe 1 (s.size : Int) := by
 have h := QI s
 have h0 := QI (⟨#[]⟩ : ByteArray)
 rw [Bool.eq_iff_iff]
 simp only [beq_iff_eq, iLe, Bool.not_eq_true', decide_eq_false_iff_not]
 constructor
 ·intro e; rw [e, h0] at h
  have : (⟨#[]⟩ : ByteArray).size = 0 := rfl
  omega
 ·intro e
  have e1 : s.toList = [] := List.eq_nil_of_length_eq_zero (by omega)
  have e2 : (⟨#[]⟩ : ByteArray).toList = [] := List.eq_nil_of_length_eq_zero h0
  rw [e1, e2]
theorem Tu (N : Nat) (s : ByteArray) (hN : s.size < N) (hs : s.size ≤ 1048576) : F4 N [.str s] = some [.bool (Ec s)] := by
 show H3 (std (NI N) N) (xOf _) = _
 simp only [H3, std, xOf, PXb, PXc, PXn, AK, Tv]
 have e : iLe 1 (s.size : Int) = false ∨ iLe 1 (s.size : Int) = true := by cases iLe 1 (s.size : Int) <;> simp
 have e2 : iLt 16 (s.size : Int) = !iLe (s.size : Int) 16 := by unfold iLt iLe; rw [Bool.eq_iff_iff]; simp
 rw [e2]
 cases h : iLe 1 (s.size : Int) && iLe (s.size : Int) 16 with
 | false =>
  have : (!iLe 1 (s.size : Int) || !iLe (s.size : Int) 16) = true := by rw [← Bool.not_and, h]; rfl
  simp only [this, cond_true, Ec, h, Bool.and_false]
 | true =>
  have : (!iLe 1 (s.size : Int) || !iLe (s.size : Int) 16) = false := by rw [← Bool.not_and, h]; rfl
  simp only [this, cond_false, Ec, h, Bool.and_true]
  refine Ap (B4 (len := s.size) (Gb s) [.bool false] ?_ ?_ N hN) ?_
  ·intro self
   simp only [PXb, PXc, PXn, AK, Bu]
  ·intro i self hi
   simp only [PXb, PXc, AK, Int.toNat_natCast, A5 (show i ≤ 1099511627776 by omega), Bc hi, A3 hi, Gb]
   cases (iLe 65 (E3 s i) && iLe (E3 s i) 90) <;> rfl
  ·cases Aa (Gb s) s.size 0 <;> rfl
end Go.Px
end
section
namespace Go.Px
set_option maxRecDepth 100000
theorem UO {i len : Nat} (h : i < len) (hl : len ≤ 1099511627776) : (!iLt 0 (i : Int) || iIn (IntKind.i64.wrap ((i : Int) - 1)) (len : Int)) = true := by
 rw [NN (by omega) (by omega)]
 simp only [iLt, iIn, Bool.or_eq_true, Bool.not_eq_true', decide_eq_false_iff_not, decide_eq_true_eq]
 omega
def Up (L : Rows) (ov : Int) (i : Nat) : Bool := (iLt (atI L i 0) 1 || iLt (atI L i 1) (atI L i 0) || iLt ov (atI L i 1)) || !btw (atI L i 2) 0 11
def Sg (L : Rows) (i : Nat) : Bool := iLt 0 (i : Int) && iLe (atI L i 0) (pvI (AJ L (IntKind.i64.wrap ((i : Int) - 1)).toNat 1))
def Q1 (L : Rows) (ov : Int) (i : Nat) : Option (List PV) := cond (Up L ov i) (some [.int 2]) (cond (Sg L i) (some [.int 8]) none)
def Vl : Option (List PV) → Int
 | none => 0
 | some r => pvI (AE r 0)
def QQ (L : Rows) (ov : Int) : Int := cond (iLt 8 (L.length : Int)) 9 (Vl (FW (Q1 L ov) L.length 0))
theorem P4 (o : Option (List PV)) : cond (pvI (AE (Sb o) 0) == ((0 : Nat) : Int)) (some [PV.int (pvI (AE (Sb o) 1))]) (some [PV.int 0]) = some [PV.int (Vl o)] := by
 cases o <;> rfl
theorem QJ (N : Nat) (x0 : ByteArray) (x1 x2 x3 x4 x5 x6 x7 x9 x10 x11 x12 : Int) (x8 : Bool) (L : Rows) (hN : 2097152 < N) :
   C6 N [.str x0, .int x1, .int x2, .int x3, .int x4, .int x5, .int x6, .int x7, .bool x8, .int x9, .int x10, .int x11, .int x12, .rows L] = some [.int (QQ L x3)] := by
  show ED (std (E4 N) N) (xOf _) = _
  have e : ∀ ls, E4 N 47 [] ls = BQ N ls := fun ls => rfl
  simp only [ED, std, xOf, e, FB, PXb, PXc, PXn, AK, QQ]
  cases h8 : iLt 8 (L.length : Int) with
  | true => rfl
  | false =>
    have hl : L.length ≤ 8 := by simp [iLt] at h8; omega
    simp only [cond_false]
    refine Ap (FM (len := L.length) (Q1 L x3) ?_ ?_ L.length 0 N (by omega) (by omega)) ?_
    · intro self
      simp only [PXb, PXc, PXn, AK, Bu]
    · intro i self hi
      simp only [PXb, PXc, PXn, AK, Int.toNat_natCast, A5 (show i ≤ 1099511627776 by omega), Bc hi, A3 hi, FB, e, UO hi (by omega)]
      simp only [Q1, Up, Sg, atI]
      cases (iLt (pvI (AJ L i 0)) 1 || iLt (pvI (AJ L i 1)) (pvI (AJ L i 0)) || iLt x3 (pvI (AJ L i 1)) || !btw (pvI (AJ L i 2)) 0 11) <;>
      cases (iLt 0 (i : Int) && iLe (pvI (AJ L i 0)) (pvI (AJ L (IntKind.i64.wrap ((i : Int) - 1)).toNat 1))) <;> rfl
    · exact P4 _
def Bt (x0 : ByteArray) (x1 x2 x3 x4 x5 x6 x7 x9 x10 x11 x12 : Int) (L : Rows) : Int :=
  cond (!Ec x0) 5 (cond (!Cl x1 x2 x3 x4 x5 x6 x7 x9 x10 x11 x12) 2
    (cond ((!(x10 == 0) && x2 == 1) || ((!(x5 == 0) || iLt 0 (L.length : Int)) && x3 == 0)) 1
      (cond (!(x5 == 0) && iLt (IntKind.i64.wrap (x5 * x1)) x3) 13 (QQ L x3))))
theorem KN (N : Nat) (x0 : ByteArray) (x1 x2 x3 x4 x5 x6 x7 x9 x10 x11 x12 : Int) (x8 : Bool) (L : Rows) (hN : 2097152 < N) (hs : x0.size ≤ 1048576) :
   AP N [.str x0, .int x1, .int x2, .int x3, .int x4, .int x5, .int x6, .int x7, .bool x8, .int x9, .int x10, .int x11, .int x12, .rows L] = some [.int (Bt x0 x1 x2 x3 x4 x5 x6 x7 x9 x10 x11 x12 L)] := by
  show Ep (std (Ca N) N) (xOf _) = _
  have e : ∀ ls, Ca N 31 [] ls = Ei N ls := fun ls => rfl
  have e2 : ∀ ls, Ca N 32 [] ls = Ch N ls := fun ls => rfl
  have e3 : ∀ ls, Ca N 33 [] ls = C6 N ls := fun ls => rfl
  simp only [Ep, std, xOf, e, e2, e3, TL N x0 (by omega) hs, PW, QJ N _ _ _ _ _ _ _ _ _ _ _ _ _ _ hN, PXb, PXc, AK, Bt]
  cases Ec x0 <;> cases Cl x1 x2 x3 x4 x5 x6 x7 x9 x10 x11 x12 <;> try rfl
  simp only [PXb, PXc, AK, Bool.not_true]
  cases (!(x10 == 0) && x2 == 1) <;> cases ((!(x5 == 0) || iLt 0 (L.length : Int)) && x3 == 0) <;> try rfl
  cases (!(x5 == 0) && iLt (IntKind.i64.wrap (x5 * x1)) x3) <;> rfl
theorem Ny (N : Nat) (x0 : ByteArray) (x1 x2 x3 x4 x5 x6 x7 x9 x10 x11 x12 : Int) (x8 : Bool) (L : Rows) (hN : 2097152 < N) (hs : x0.size ≤ 1048576) :
   Bq N [.str x0, .int x1, .int x2, .int x3, .int x4, .int x5, .int x6, .int x7, .bool x8, .int x9, .int x10, .int x11, .int x12, .rows L] = some [.int (Bt x0 x1 x2 x3 x4 x5 x6 x7 x9 x10 x11 x12 L)] := by
  show Gh (std (Ez N) N) (xOf _) = _
  have e : ∀ ls, Ez N 53 [] ls = F4 N ls := fun ls => rfl
  have e2 : ∀ ls, Ez N 54 [] ls = I4 N ls := fun ls => rfl
  simp only [Gh, std, xOf, e, e2, Tu N x0 (by omega) hs, Vs, PXb, PXc, PXn, AK]
  simp only [← Bool.not_and, Bt]
  rw [show (btw x1 2 11 && btw x2 1 2 && btw x3 0 90 && btw x4 4 8 && btw x5 0 90 && btw x6 1 5 && btw x7 1 5 && btw x9 0 200 && btw x10 0 1000 && btw x11 0 9 && btw x12 0 11) = Cl x1 x2 x3 x4 x5 x6 x7 x9 x10 x11 x12 from rfl]
  rw [Bool.and_comm (x3 == 0)]
  cases Ec x0 <;> cases Cl x1 x2 x3 x4 x5 x6 x7 x9 x10 x11 x12 <;> try rfl
  cases (!(x10 == 0) && x2 == 1) || ((!(x5 == 0) || iLt 0 (L.length : Int)) && x3 == 0) <;> try rfl
  cases (!(x5 == 0) && iLt (IntKind.i64.wrap (x5 * x1)) x3) <;> try rfl
  simp only [Bool.not_true, cond_false, QQ]
  cases h8 : iLt 8 (L.length : Int) with
  | true => rfl
  | false =>
    have hl : L.length ≤ 8 := by simp [iLt] at h8; omega
    simp only [cond_false]
    refine Ap (FM (len := L.length) (Q1 L x3) ?_ ?_ L.length 0 N (by omega) (by omega)) ?_
    · intro self
      simp only [PXb, PXc, PXn, AK, Bu]
    · intro i self hi
      simp only [PXb, PXc, PXn, AK, Int.toNat_natCast, A5 (show i ≤ 1099511627776 by omega), Bc hi, A3 hi, UO hi (by omega)]
      simp only [Q1, Up, Sg, atI]
      cases (iLt (pvI (AJ L i 0)) 1 || iLt (pvI (AJ L i 1)) (pvI (AJ L i 0)) || iLt x3 (pvI (AJ L i 1)) || !btw (pvI (AJ L i 2)) 0 11) <;>
      cases (iLt 0 (i : Int) && iLe (pvI (AJ L i 0)) (pvI (AJ L (IntKind.i64.wrap ((i : Int) - 1)).toNat 1))) <;> rfl
    · exact P4 _
end Go.Px
end
section
namespace Go.Px
set_option maxRecDepth 100000
theorem Mc (N : Nat) (L : Rows) (v : Int) (hN : L.length < N) (hl : L.length ≤ 2097152) : Bv N [.rows L, .int v] = some [.int (Uv (fun j => v == atI L j 0) L.length)] := by
 show Cd (std (FV N) N) (xOf _) = _
 simp only [Cd, std, xOf, PXb, PXc, PXn, AK]
 refine Ap (FM (len := L.length) (LO fun j => v == atI L j 0) ?_ ?_ L.length 0 N (by omega) (by omega)) ?_
 ·intro self
  simp only [PXb, PXc, PXn, AK, Bu]
 ·intro i self hi
  simp only [PXb, PXc, PXn, AK, A5 (show i ≤ 1099511627776 by omega), Bc hi, A3 hi, LO, EF]
  cases v == atI L i 0 <;> rfl
 ·unfold Uv
  cases FW (LO fun j => v == atI L j 0) L.length 0 <;> rfl
def Pq (L : Rows) (k : Nat) (v : Int) : Bool := Aa (fun j => v == atI L j 0) k 0
theorem KA (N : Nat) (L : Rows) (v : Int) (hN : L.length < N) (hl : L.length ≤ 2097152) : Af N [.rows L, .int v] = some [.bool (Pq L L.length v)] := by
 show B1 (std (CS N) N) (xOf _) = _
 have e : ∀ ls, CS N 93 [] ls = Bv N ls := fun ls => rfl
 simp only [B1, std, xOf, PXb, PXc, PXn, AK, e, Mc N L v hN hl, Q2, Pq]
theorem Vy (L : Rows) (i : Nat) (v : Int) (h : i ≤ L.length) : Pq (L.take i) (L.take i).length v = Pq L i v := by
 rw [List.length_take, Nat.min_eq_left h]
 exact P3 i 0 (fun j _ hj => by rw [Sj (by omega)])
def GM (L : Rows) (n : Int) (i : Nat) : Bool := !btw (atI L i 0) 1 n || Pq L i (atI L i 0)
def DK (L : Rows) (n : Int) : Bool := !Aa (GM L n) L.length 0
theorem Fn (N : Nat) (L : Rows) (n : Int) (hN : L.length < N) (hl : L.length ≤ 2097152) : Bk N [.rows L, .int n] = some [.bool (DK L n)] := by
 show CP (std (Bx N) N) (xOf _) = _
 have e : ∀ ls, Bx N 48 [] ls = AR N ls := fun ls => rfl
 have e2 : ∀ ls, Bx N 70 [] ls = Af N ls := fun ls => rfl
 simp only [CP, std, xOf, PXb, PXc, PXn, AK]
 refine Ap (B4 (len := L.length) (GM L n) [.bool false] ?_ ?_ N hN) ?_
 ·intro self
  simp only [PXb, PXc, PXn, AK, Bu]
 ·intro i self hi
  have h1 : (L.take i).length ≤ L.length := List.length_take_le' i L
  simp only [PXb, PXc, PXn, AK, A5 (show i ≤ 1099511627776 by omega), Bc hi, A3 hi, e, e2, Cf, WS (Nat.le_of_lt hi), Int.toNat_zero, List.drop_zero, KA N (L.take i) _ (by omega) (by omega), Vy L i _ (by omega), EF, GM]
  cases btw (atI L i 0) 1 n <;> cases Pq L i (atI L i 0) <;> rfl
 ·unfold DK
  cases Aa (GM L n) L.length 0 <;> rfl
theorem Qs (N : Nat) (L : Rows) (n : Int) (hN : L.length < N) (hl : L.length ≤ 2097152) : HB N [.rows L, .int n] = some [.bool (DK L n)] := by
 show JZ (std (KB N) N) (xOf _) = _
 have e : ∀ ls, KB N 105 [] ls = D2 N ls := fun ls => rfl
 simp only [JZ, std, xOf, PXb, PXc, PXn, AK]
 refine Ap (B4 (len := L.length) (GM L n) [.bool false] ?_ ?_ N hN) ?_
 ·intro self
  simp only [PXb, PXc, PXn, AK, Bu]
 ·intro i self hi
  have h1 : (L.take i).length = i := by rw [List.length_take]; omega
  simp only [PXb, PXc, PXn, AK, A5 (show i ≤ 1099511627776 by omega), Bc hi, A3 hi, e, Rx, WS (Nat.le_of_lt hi), Int.toNat_zero, List.drop_zero, EF, GM, h1]
  cases btw (atI L i 0) 1 n with
  | false => rfl
  | true =>
   simp only [PXb, PXc, PXn, AK]
   refine Ap (LL (len := i) (fun j => [.int (j : Int)]) (fun j => atI L i 0 == atI L j 0) [.int 0, .bool false] [.int 1, .int (i : Int)] ?_ ?_ N (by omega)) ?_
   ·intro self
    simp only [PXb, PXc, PXn, AK, Bu]
   ·intro j self hj
    simp only [PXb, PXc, PXn, AK, A5 (show j ≤ 1099511627776 by omega), Bc hj, A3 hj, Sj hj]
    rfl
   ·unfold Pq
    cases Aa (fun j => atI L i 0 == atI L j 0) i 0 <;> rfl
 ·unfold DK
  cases Aa (GM L n) L.length 0 <;> rfl
def lsI (L14 L16 L17 L19 L24 : Rows) (b18 b20 : Bool) (x0 x1 x2 x3 x4 x5 x6 x7 x8 x9 x10 x11 x12 x13 x15 x21 x22 x23 x25 x26 x27 : Int) : List PV :=
 [.int x0, .int x1, .int x2, .int x3, .int x4, .int x5, .int x6, .int x7, .int x8, .int x9, .int x10, .int x11, .int x12, .int x13, .rows L14, .int x15, .rows L16, .rows L17, .bool b18, .rows L19, .bool b20, .int x21, .int x22, .int x23, .rows L24, .int x25, .int x26, .int x27]
section
variable (N : Nat) (L14 L16 L17 L19 L24 : Rows) (b18 b20 : Bool) (x0 x1 x2 x3 x4 x5 x6 x7 x8 x9 x10 x11 x12 x13 x15 x21 x22 x23 x25 x26 x27 : Int)
theorem S4 (hN : L14.length < N) (hl : L14.length ≤ 2097152) : Ej N (lsI L14 L16 L17 L19 L24 b18 b20 x0 x1 x2 x3 x4 x5 x6 x7 x8 x9 x10 x11 x12 x13 x15 x21 x22 x23 x25 x26 x27) = some [.bool (Il L14)] := by
 show Gq (std (MT N) N) (xOf (lsI ..)) = _
 simp only [Gq, std, xOf, lsI, PXb, PXc, PXn, AK]
 refine Ap (B4 (len := L14.length) (fun i => !(atI L14 i 0 == 0)) [.bool true] ?_ ?_ N hN) ?_
 ·intro self
  simp only [PXb, PXc, PXn, AK, Bu]
 ·intro i self hi
  simp only [PXb, PXc, PXn, AK, A5 (show i ≤ 1099511627776 by omega), Bc hi, A3 hi, EF]
 ·unfold Il
  cases Aa (fun i => !(atI L14 i 0 == 0)) L14.length 0 <;> rfl
end
theorem LU (N : Nat) (v : Int) : Bl N [.int v] = some [.bool (!btw v 0 1000000000)] := by
 show CQ (std (C5 N) N) (xOf _) = _
 have e : ∀ ls, C5 N 48 [] ls = AR N ls := fun ls => rfl
 simp only [CQ, std, xOf, PXb, PXc, PXn, AK, e, Cf]
end Go.Px
end
section
namespace Go.Px
set_option maxRecDepth 100000
def pIs (L : Rows) (v : Int) (i : Nat) : Bool := atI L i 0 == v
def LN (s n : Int) (i : Nat) : Bool := s == (i : Int) + 1 || n == (i : Int) + 1
def H9 (L : Rows) (s n : Int) (i : Nat) : Bool := iLt 3 (atI L i 0) || (pIs L 1 i && !LN s n i)
def JO (L : Rows) (s n : Int) (i : Nat) : Bool := iLt 3 (atI L i 0) || !(pIs L 1 i == LN s n i)
def PO (L : Rows) : Int := BL (pIs L 2) L.length
def ins (L : Rows) : Int := BL (pIs L 1) L.length
def two (s n : Int) : Int := cond (!(n == 0)) (IntKind.i64.wrap (cond (!(s == 0)) (IntKind.i64.wrap (0 + 1)) 0 + 1)) (cond (!(s == 0)) (IntKind.i64.wrap (0 + 1)) 0)
def Sa (L : Rows) (s n wk k : Int) : Bool :=
 !Aa (H9 L s n) L.length 0 && ((btw s 0 k && btw n 0 k) && (!(s == n && !(s == 0)) && ((two s n == ins L && (!Il L || iLt 0 (two s n))) && PO L == wk)))
def Ju (L : Rows) (s n wk : Int) : Bool :=
 !Aa (JO L s n) L.length 0 && (!((Il L && iLt (ins L) 1) || (!(s == 0) && s == n)) && wk == PO L)
def U4 (L : Rows) : Nat → Bool
 | 0 => false
 | i + 1 => U4 L i || !(atI L i 0 == 0)
theorem UI (L : Rows) : ∀ i, U4 L i = Aa (fun j => !(atI L j 0 == 0)) i 0
 | 0 => rfl
 | i + 1 => by rw [Rl, Nat.zero_add, ← UI L i]; rfl
section
variable (N : Nat) (L14 L16 L17 L19 L24 : Rows) (b18 b20 : Bool) (x0 x1 x2 x3 x4 x5 x6 x7 x8 x9 x10 x11 x12 x13 x15 x21 x22 x23 x25 x26 x27 : Int)
theorem Ml (k : Int) (hN : L14.length < N) (hl : L14.length ≤ 2097152) : CE N (lsI L14 L16 L17 L19 L24 b18 b20 x0 x1 x2 x3 x4 x5 x6 x7 x8 x9 x10 x11 x12 x13 x15 x21 x22 x23 x25 x26 x27 ++ [.int k]) = some [.bool (Sa L14 x12 x13 x4 k)] := by
  simp only [lsI, List.cons_append, List.nil_append]
  show Cs (std (De N) N) (xOf _) = _
  have e : ∀ ls, De N 48 [] ls = AR N ls := fun ls => rfl
  simp only [Cs, std, xOf, lsI, PXb, PXc, PXn, AK]
  refine Ap (LL (len := L14.length) (fun i => [.int (BL (pIs L14 2) i), .int (BL (pIs L14 1) i), .bool (U4 L14 i), .int (i : Int)])
    (H9 L14 x12 x13) [.int 0, .bool false] [.int 1, .int (PO L14), .int (ins L14), .bool (Il L14)] ?_ ?_ N hN) ?_
  · intro self
    simp only [PXb, PXc, PXn, AK, Bu, UI]
    rfl
  · intro i self hi
    simp only [PXb, PXc, AK, A5 (show i ≤ 1099511627776 by omega), Bc hi, A3 hi, EF, Ll (pIs L14 2) (show i ≤ 1099511627776 by omega), Ll (pIs L14 1) (show i ≤ 1099511627776 by omega)]
    unfold H9 pIs LN
    simp only [BL, U4]
    cases h3 : iLt 3 (atI L14 i 0) with
    | true => rfl
    | false =>
      cases h1 : atI L14 i 0 == 1 with
      | true =>
        rw [UH h1]
        cases x12 == (i : Int) + 1 <;> cases x13 == (i : Int) + 1 <;> rfl
      | false => cases h2 : atI L14 i 0 == 2 <;> rfl
  · unfold Sa
    simp only [e, Cf]
    cases Aa (H9 L14 x12 x13) L14.length 0 with
    | true => rfl
    | false =>
      simp only [PXb, PXc, PXn, AK]
      unfold two
      cases btw x12 0 k <;> cases btw x13 0 k <;> try rfl
      cases x12 == 0 <;> cases x13 == 0 <;> cases x12 == x13 <;> try rfl
theorem RT (hN : L14.length < N) (hl : L14.length ≤ 2097152) : DU N (lsI L14 L16 L17 L19 L24 b18 b20 x0 x1 x2 x3 x4 x5 x6 x7 x8 x9 x10 x11 x12 x13 x15 x21 x22 x23 x25 x26 x27) = some [.bool (Ju L14 x12 x13 x4)] := by
  show Ey (std (FX N) N) (xOf (lsI ..)) = _
  have e : ∀ ls, FX N 119 [] ls = Ej N ls := fun ls => rfl
  have h70 := S4 N L14 L16 L17 L19 L24 b18 b20 x0 x1 x2 x3 x4 x5 x6 x7 x8 x9 x10 x11 x12 x13 x15 x21 x22 x23 x25 x26 x27 hN hl
  simp only [lsI] at h70
  simp only [Ey, std, xOf, lsI, PXb, PXc, PXn, AK, e, h70]
  refine Ap (LL (len := L14.length) (fun i => [.int (BL (pIs L14 2) i), .int (BL (pIs L14 1) i), .int (i : Int)])
    (JO L14 x12 x13) [.int 0, .bool false] [.int 1, .int (PO L14), .int (ins L14)] ?_ ?_ N hN) ?_
  · intro self
    simp only [PXb, PXc, PXn, AK, Bu]
    rfl
  · intro i self hi
    simp only [PXb, PXc, AK, A5 (show i ≤ 1099511627776 by omega), Bc hi, A3 hi, EF, Ll (pIs L14 2) (show i ≤ 1099511627776 by omega), Ll (pIs L14 1) (show i ≤ 1099511627776 by omega)]
    unfold JO pIs LN
    simp only [BL]
    cases h3 : iLt 3 (atI L14 i 0) with
    | true => rfl
    | false =>
      cases h1 : atI L14 i 0 == 1 with
      | true =>
        rw [UH h1]
        cases x12 == (i : Int) + 1 <;> cases x13 == (i : Int) + 1 <;> rfl
      | false => cases h2 : atI L14 i 0 == 2 <;> cases x12 == (i : Int) + 1 <;> cases x13 == (i : Int) + 1 <;> rfl
  · unfold Ju
    cases Aa (JO L14 x12 x13) L14.length 0 with
    | true => rfl
    | false =>
      simp only [PXb, PXc, PXn, AK]
      cases Il L14 <;> cases h : iLt (ins L14) 1 <;> cases x12 == 0 <;> cases x12 == x13 <;> first | rfl | (simp [Sb, AE, h])
end
end Go.Px
end
section
namespace Go.Px
set_option maxRecDepth 100000
theorem Wf (s n : Int) : two s n = cond (!(s == 0)) 1 0 + cond (!(n == 0)) 1 0 := by
 unfold two
 cases s == 0 <;> cases n == 0 <;> rfl
theorem Wk {s n : Int} {len : Nat} (h1 : 0 ≤ s ∧ s ≤ (len : Int)) (h2 : 0 ≤ n ∧ n ≤ (len : Int)) (hd : (s == n && !(s == 0)) = false) : two s n = BL (LN s n) len := by
 have hs : iLe s (len : Int) = true := by simp only [iLe, decide_eq_true_eq]; omega
 have hn : iLe n (len : Int) = true := by simp only [iLe, decide_eq_true_eq]; omega
 unfold LN
 rw [VH (p := fun i => s == (i : Int) + 1) (q := fun i => n == (i : Int) + 1) len (fun j _ hp => by
  have e1 : s = (j : Int) + 1 := by simpa using hp
  show (n == (j : Int) + 1) = false
  rw [beq_eq_false_iff_ne]
  intro e2
  have e3 : (s == n) = true := by rw [beq_iff_eq]; omega
  have e4 : (s == 0) = false := by rw [beq_eq_false_iff_ne]; omega
  rw [e3, e4] at hd; cases hd), Sn s len h1.1, Sn n len h2.1, hs, hn, Bool.and_true, Bool.and_true, Wf]
theorem Wd (x : Int) : iLt 0 x = !iLt x 1 := by
 unfold iLt
 rw [Bool.eq_iff_iff]
 simp only [decide_eq_true_eq, Bool.not_eq_true', decide_eq_false_iff_not]
 omega
theorem Vz {L : Rows} {s n : Int} (h1 : 0 ≤ s ∧ s ≤ (L.length : Int)) (h2 : 0 ≤ n ∧ n ≤ (L.length : Int)) (hd : (s == n && !(s == 0)) = false) :
    (!Aa (H9 L s n) L.length 0 && two s n == ins L) = !Aa (JO L s n) L.length 0 := by
  have h2c := Wk h1 h2 hd
  rw [Bool.eq_iff_iff]
  simp only [Bool.and_eq_true, Bool.not_eq_true', QP, beq_iff_eq]
  constructor
  · intro ⟨ha, hb⟩ j _ hj
    have hm : ∀ j, j < L.length → pIs L 1 j = true → LN s n j = true := fun j hj hp => by
      have := ha j (Nat.zero_le _) (by omega)
      unfold H9 at this
      rw [hp] at this
      simp only [Bool.or_eq_false_iff, Bool.true_and, Bool.not_eq_false'] at this
      exact this.2
    have he := Vo L.length hm (by rw [← h2c, hb]; rfl) j (by omega)
    have := ha j (Nat.zero_le _) hj
    unfold H9 at this
    unfold JO
    rw [Bool.or_eq_false_iff] at this ⊢
    exact ⟨this.1, by rw [he]; simp⟩
  · intro ha
    have hm : ∀ j, j < L.length → pIs L 1 j = LN s n j := fun j hj => by
      have := ha j (Nat.zero_le _) (by omega)
      unfold JO at this
      rw [Bool.or_eq_false_iff] at this
      simpa using this.2
    refine ⟨fun j h0 hj => ?_, ?_⟩
    · have := ha j h0 hj
      unfold JO at this
      unfold H9
      rw [Bool.or_eq_false_iff] at this ⊢
      refine ⟨this.1, ?_⟩
      rw [hm j (by omega)]
      cases LN s n j <;> rfl
    · rw [h2c]
      exact (R1 L.length hm).symm
theorem W5 (L : Rows) (s n wk k : Int) (hk : (L.length : Int) = k) : Sa L s n wk k = (btw s 0 k && btw n 0 k && Ju L s n wk) := by
 subst hk
 unfold Sa Ju
 cases hs : btw s 0 (L.length : Int) with
 | false => simp only [Bool.false_and, Bool.and_false]
 | true =>
  cases hn : btw n 0 (L.length : Int) with
  | false => simp only [Bool.false_and, Bool.and_false]
  | true =>
   have h1 : 0 ≤ s ∧ s ≤ (L.length : Int) := by simpa [btw, iLe] using hs
   have h2 : 0 ≤ n ∧ n ≤ (L.length : Int) := by simpa [btw, iLe] using hn
   simp only [Bool.true_and]
   cases hd : (s == n && !(s == 0)) with
   | true =>
    have : (!(s == 0) && s == n) = true := by rw [Bool.and_comm]; exact hd
    rw [this]
    simp only [Bool.or_true, Bool.not_true, Bool.false_and, Bool.and_false]
   | false =>
    have : (!(s == 0) && s == n) = false := by rw [Bool.and_comm]; exact hd
    rw [this, ← Vz h1 h2 hd]
    simp only [Bool.or_false, Bool.not_false, Bool.true_and]
    rw [show (wk == PO L) = (PO L == wk) from BEq.comm]
    cases hA : Aa (H9 L s n) L.length 0 with
    | true => rfl
    | false =>
     cases hB : two s n == ins L with
     | false => rfl
     | true =>
      rw [beq_iff_eq.1 hB, Wd]
      simp only [Bool.true_and, Bool.not_false, Bool.not_and]
end Go.Px
end
section
namespace Go.Px
set_option maxRecDepth 100000
def CF (v : Int) : Bool := !btw v 0 1000000000
def Pn (x1 x3 x5 x6 x7 x8 x9 x10 x21 x23 x25 x26 : Int) : Rows := [[.int x1], [.int x3], [.int x5], [.int x6], [.int x7], [.int x8], [.int x9], [.int x10], [.int x21], [.int x23], [.int x25], [.int x26]]
section
variable (N : Nat) (L14 L16 L17 L19 L24 : Rows) (b18 b20 : Bool) (x0 x1 x2 x3 x4 x5 x6 x7 x8 x9 x10 x11 x12 x13 x15 x21 x22 x23 x25 x26 x27 : Int)
theorem Nd (hN : 2097152 < N) (hl : L19.length ≤ 1048576) : CD N (lsI L14 L16 L17 L19 L24 b18 b20 x0 x1 x2 x3 x4 x5 x6 x7 x8 x9 x10 x11 x12 x13 x15 x21 x22 x23 x25 x26 x27) = some [.bool (!(IY CF (Pn x1 x3 x5 x6 x7 x8 x9 x10 x21 x23 x25 x26) || IY CF L19))] := by
 show Ct (std (Di N) N) (xOf (lsI ..)) = _
 have e : ∀ ls, Di N 72 [] ls = Bl N ls := fun ls => rfl
 rw [← Vx]
 simp only [Ct, std, xOf, lsI, PXb, PXc, PXn, AK, Pn]
 generalize hM : ([PV.int x1] :: [PV.int x3] :: [PV.int x5] :: [PV.int x6] :: [PV.int x7] :: [PV.int x8] :: [PV.int x9] :: [PV.int x10] :: [PV.int x21] :: [PV.int x23] :: [PV.int x25] :: [PV.int x26] :: L19 : Rows) = M
 have hM2 : M.length ≤ 2097152 := by rw [← hM]; simp only [List.length_cons]; omega
 rw [WT (n := M.length) (by omega) (by omega)]
 simp only [PXb, PXc, PXn, AK]
 rw [Option.bind_assoc]
 refine Ap (FM (len := M.length) (LO fun i => CF (atI M i 0)) ?_ ?_ M.length 0 N (by omega) (by omega)) ?_
 ·intro self
  simp only [PXb, PXc, PXn, AK, Bu]
 ·intro i self hi
  simp only [PXb, PXc, PXn, AK, A5 (show i ≤ 1099511627776 by omega), Bc hi, A3 hi, LO, EF, e, LU, CF]
  cases btw (atI M i 0) 0 1000000000 <;> rfl
 ·unfold IY
  rw [← Q2]
  unfold Uv
  cases FW (LO fun i => CF (atI M i 0)) M.length 0 <;> rfl
end
def FJ (a3 x2 : Int) : Bool := cond (a3 == 0) (x2 == 0) (btw x2 1 a3)
def NW (s : ByteArray) (a1 a2 a3 a4 a5 a6 a7 a9 a10 a11 a12 : Int) (La L14 L16 L17 L19 L24 : Rows) (x0 x1 x2 x3 x4 x5 x6 x7 x8 x9 x10 x11 x12 x13 x15 x21 x22 x23 x25 x26 x27 : Int) : Bool :=
  Bt s a1 a2 a3 a4 a5 a6 a7 a9 a10 a11 a12 La == 0 && (btw x0 1 2 && ((L14.length : Int) == a1 && ((L19.length : Int) == a1 && ((L24.length : Int) == a1 && (!iLt 5 x27 &&
    (btw x12 0 a1 && (btw x13 0 a1 && (Ju L14 x12 x13 x4 && (btw x15 0 a1 && (btw x22 0 a1 && (DK L16 a1 && (DK L17 a1 && (FJ a3 x2 && (btw x11 0 (IntKind.i64.wrap (a4 - 1)) &&
      (!IY CF (Pn x1 x3 x5 x6 x7 x8 x9 x10 x21 x23 x25 x26) && !IY CF L19)))))))))))))))
theorem Ul {s : ByteArray} {a1 a2 a3 a4 a5 a6 a7 a9 a10 a11 a12 : Int} {La : Rows} (h : (Bt s a1 a2 a3 a4 a5 a6 a7 a9 a10 a11 a12 La == 0) = true) : 0 ≤ a3 := by
 unfold Bt at h
 cases hn : Ec s with
 | false => rw [hn] at h; exact absurd h Bool.false_ne_true
 | true =>
  cases hr : Cl a1 a2 a3 a4 a5 a6 a7 a9 a10 a11 a12 with
  | false => rw [hn, hr] at h; exact absurd h Bool.false_ne_true
  | true =>
   unfold Cl at hr
   simp only [Bool.and_eq_true] at hr
   have := hr.1.1.1.1.1.1.1.1.2
   unfold btw iLe at this
   simp only [Bool.and_eq_true, decide_eq_true_eq] at this
   omega
theorem UW {a : Int} (h : 0 ≤ a) : iLt 0 a = !(a == 0) := by
 unfold iLt
 rw [Bool.eq_iff_iff]
 simp only [decide_eq_true_eq, Bool.not_eq_true', beq_eq_false_iff_ne]
 omega
section
variable (N : Nat) (s : ByteArray) (a1 a2 a3 a4 a5 a6 a7 a9 a10 a11 a12 : Int) (a8 : Bool) (La : Rows) (L14 L16 L17 L19 L24 : Rows) (b18 b20 : Bool) (x0 x1 x2 x3 x4 x5 x6 x7 x8 x9 x10 x11 x12 x13 x15 x21 x22 x23 x25 x26 x27 : Int)
theorem PQ (hN : 2097152 < N) (hs : s.size ≤ 1048576) (h14 : L14.length ≤ 1048576) (h16 : L16.length ≤ 1048576) (h17 : L17.length ≤ 1048576) (h19 : L19.length ≤ 1048576) : A6 N ([.str s, .int a1, .int a2, .int a3, .int a4, .int a5, .int a6, .int a7, .bool a8, .int a9, .int a10, .int a11, .int a12, .rows La] ++ lsI L14 L16 L17 L19 L24 b18 b20 x0 x1 x2 x3 x4 x5 x6 x7 x8 x9 x10 x11 x12 x13 x15 x21 x22 x23 x25 x26 x27) = some [.bool (NW s a1 a2 a3 a4 a5 a6 a7 a9 a10 a11 a12 La L14 L16 L17 L19 L24 x0 x1 x2 x3 x4 x5 x6 x7 x8 x9 x10 x11 x12 x13 x15 x21 x22 x23 x25 x26 x27)] := by
 simp only [lsI, List.cons_append, List.nil_append]
 show Dq (std (BP N) N) (xOf _) = _
 have e1 : ∀ ls, BP N 17 [] ls = AP N ls := fun ls => rfl
 have e2 : ∀ ls, BP N 48 [] ls = AR N ls := fun ls => rfl
 have e3 : ∀ ls, BP N 49 [] ls = CE N ls := fun ls => rfl
 have e4 : ∀ ls, BP N 50 [] ls = Bk N ls := fun ls => rfl
 have e5 : ∀ ls, BP N 51 [] ls = CD N ls := fun ls => rfl
 have l54 := Ml N L14 L16 L17 L19 L24 b18 b20 x0 x1 x2 x3 x4 x5 x6 x7 x8 x9 x10 x11 x12 x13 x15 x21 x22 x23 x25 x26 x27 a1 (by omega) (by omega)
 have l56 := Nd N L14 L16 L17 L19 L24 b18 b20 x0 x1 x2 x3 x4 x5 x6 x7 x8 x9 x10 x11 x12 x13 x15 x21 x22 x23 x25 x26 x27 (by omega) (by omega)
 simp only [lsI, List.cons_append, List.nil_append] at l54 l56
 simp only [Dq, std, xOf, PXb, PXc, PXn, AK, e1, e2, e3, e4, e5, KN N s _ _ _ _ _ _ _ _ _ _ _ _ _ hN hs, Cf, l54, l56, Fn N L16 _ (by omega) (by omega), Fn N L17 _ (by omega) (by omega)]
 unfold NW FJ
 cases hc : Bt s a1 a2 a3 a4 a5 a6 a7 a9 a10 a11 a12 La == 0 <;> try rfl
 cases btw x0 1 2 <;> try rfl
 cases h14 : (L14.length : Int) == a1 <;> try rfl
 cases (L19.length : Int) == a1 <;> try rfl
 cases (L24.length : Int) == a1 <;> try rfl
 cases iLt 5 x27 <;> try rfl
 rw [W5 L14 x12 x13 x4 a1 (beq_iff_eq.1 h14)]
 cases btw x12 0 a1 <;> try rfl
 cases btw x13 0 a1 <;> try rfl
 cases Ju L14 x12 x13 x4 <;> try rfl
 cases btw x15 0 a1 <;> try rfl
 cases btw x22 0 a1 <;> try rfl
 cases DK L16 a1 <;> try rfl
 cases DK L17 a1 <;> try rfl
 cases a3 == 0 <;> cases x2 == 0 <;> cases btw x2 1 a3 <;> rfl
theorem Tc (hN : 2097152 < N) (hs : s.size ≤ 1048576) (h14 : L14.length ≤ 1048576) (h16 : L16.length ≤ 1048576) (h17 : L17.length ≤ 1048576) (h19 : L19.length ≤ 1048576) : Dd N ([.str s, .int a1, .int a2, .int a3, .int a4, .int a5, .int a6, .int a7, .bool a8, .int a9, .int a10, .int a11, .int a12, .rows La] ++ lsI L14 L16 L17 L19 L24 b18 b20 x0 x1 x2 x3 x4 x5 x6 x7 x8 x9 x10 x11 x12 x13 x15 x21 x22 x23 x25 x26 x27) = some [.bool (NW s a1 a2 a3 a4 a5 a6 a7 a9 a10 a11 a12 La L14 L16 L17 L19 L24 x0 x1 x2 x3 x4 x5 x6 x7 x8 x9 x10 x11 x12 x13 x15 x21 x22 x23 x25 x26 x27)] := by
 simp only [lsI, List.cons_append, List.nil_append]
 show Gg (std (CW N) N) (xOf _) = _
 have e1 : ∀ ls, CW N 37 [] ls = Bq N ls := fun ls => rfl
 have e2 : ∀ ls, CW N 105 [] ls = D2 N ls := fun ls => rfl
 have e3 : ∀ ls, CW N 107 [] ls = DU N ls := fun ls => rfl
 have e4 : ∀ ls, CW N 106 [] ls = HB N ls := fun ls => rfl
 have l60 := RT N L14 L16 L17 L19 L24 b18 b20 x0 x1 x2 x3 x4 x5 x6 x7 x8 x9 x10 x11 x12 x13 x15 x21 x22 x23 x25 x26 x27 (by omega) (by omega)
 simp only [lsI, List.cons_append, List.nil_append] at l60
 simp only [Gg, std, xOf, PXb, PXc, PXn, AK, e1, e2, e3, e4, Ny N s _ _ _ _ _ _ _ _ _ _ _ _ _ hN hs, Rx, l60, Qs N L16 _ (by omega) (by omega), Qs N L17 _ (by omega) (by omega)]
 unfold NW FJ
 cases hc : Bt s a1 a2 a3 a4 a5 a6 a7 a9 a10 a11 a12 La == 0 <;> try rfl
 rw [UW (Ul hc)]
 cases btw x0 1 2 <;> try rfl
 cases h14 : (L14.length : Int) == a1 <;> try rfl
 cases (L19.length : Int) == a1 <;> try rfl
 cases (L24.length : Int) == a1 <;> try rfl
 cases iLt 5 x27 <;> try rfl
 cases btw x12 0 a1 <;> try rfl
 cases btw x13 0 a1 <;> try rfl
 cases Ju L14 x12 x13 x4
 ·simp only [PXb, PXc, PXn, AK]
 cases btw x15 0 a1 <;> try rfl
 cases btw x22 0 a1 <;> try rfl
 cases DK L16 a1 <;> try rfl
 cases DK L17 a1 <;> try rfl
 have ho : (a3 == 0 && !(x2 == 0) || !(a3 == 0) && (a3 == 0 && !(x2 == 0) || !!(a3 == 0) || !btw x2 1 a3) || !btw x11 0 (IntKind.i64.wrap (a4 - 1))) = !(FJ a3 x2 && btw x11 0 (IntKind.i64.wrap (a4 - 1))) := by
  unfold FJ
  cases a3 == 0 <;> cases x2 == 0 <;> cases btw x2 1 a3 <;> cases btw x11 0 (IntKind.i64.wrap (a4 - 1)) <;> rfl
 rw [ho]
 show _ = some [PV.bool (FJ a3 x2 && (btw x11 0 (IntKind.i64.wrap (a4 - 1)) && _))]
 rw [← Bool.and_assoc]
 cases FJ a3 x2 && btw x11 0 (IntKind.i64.wrap (a4 - 1)) <;> try rfl
 simp only [PXb, PXc, PXn, AK]
 change (ES (fun s11 c11 => cond (iLt (pvI (AE c11 0)) ((Pn x1 x3 x5 x6 x7 x8 x9 x10 x21 x23 x25 x26).length : Int)) (cond (iIn (pvI (AE c11 0)) ((Pn x1 x3 x5 x6 x7 x8 x9 x10 x21 x23 x25 x26).length : Int)) (cond (!btw (pvI (AJ (Pn x1 x3 x5 x6 x7 x8 x9 x10 x21 x23 x25 x26) (pvI (AE c11 0)).toNat 0)) 0 1000000000) (some [PV.int 0, PV.bool false]) (s11 [Leaf.int (IntKind.i64.wrap (pvI (AE c11 0) + 1))])) none) (some [PV.int 1])) N [PV.int 0]).bind _ = _
 generalize hM : Pn x1 x3 x5 x6 x7 x8 x9 x10 x21 x23 x25 x26 = M
 have hM2 : M.length = 12 := by rw [← hM]; rfl
 refine Ap (B4 (len := M.length) (fun i => CF (atI M i 0)) [.bool false] ?_ ?_ N (by omega)) ?_
 ·intro self
  simp only [PXb, PXc, PXn, AK, Bu]
 ·intro i self hi
  simp only [PXb, PXc, PXn, AK, A5 (show i ≤ 1099511627776 by omega), Bc hi, A3 hi, EF, CF]
 ·show _ = some [PV.bool (!Aa (fun i => CF (atI M i 0)) M.length 0 && _)]
  cases Aa (fun i => CF (atI M i 0)) M.length 0 <;> try rfl
  refine Ap (B4 (len := L19.length) (fun i => CF (atI L19 i 0)) [.bool false] ?_ ?_ N (by omega)) ?_
  ·intro self
   simp only [PXb, PXc, PXn, AK, Bu]
  ·intro i self hi
   simp only [PXb, PXc, PXn, AK, A5 (show i ≤ 1099511627776 by omega), Bc hi, A3 hi, EF, CF]
  ·show _ = some [PV.bool (!Aa (fun i => CF (atI L19 i 0)) L19.length 0)]
   cases Aa (fun i => CF (atI L19 i 0)) L19.length 0 <;> rfl
end
end Go.Px
end
section
namespace Go.Px
set_option maxRecDepth 100000
theorem Uj {c : Int} {n : Nat} (hc : 0 ≤ c) : iRg 0 (cond (iLt c (n : Int)) c (n : Int)) (n : Int) = true := by
 cases h : iLt c (n : Int) with
 | true => simp only [iLt, decide_eq_true_eq] at h; simp only [cond_true, iRg, decide_eq_true_eq]; omega
 | false => simp only [cond_false, iRg, decide_eq_true_eq]; omega
def cut (L : Rows) (c : Int) : Rows := (L.take (cond (iLt c (L.length : Int)) c (L.length : Int)).toNat).drop (0 : Int).toNat
def V4 (s : ByteArray) (c : Int) : ByteArray := s.extract (0 : Int).toNat (cond (iLt c (s.size : Int)) c (s.size : Int)).toNat
theorem V8 (s : ByteArray) (c : Int) : (V4 s c).size ≤ s.size := by
 unfold V4
 rw [ByteArray.size_extract]
 omega
end Go.Px
end
section
namespace Go.Px
set_option maxRecDepth 100000
def H4 (r : Rul) : Int := Bt r.name r.side r.innings r.overs r.balls r.quota r.wide r.noball r.newball r.followon r.reviews r.outside r.power
theorem SA {N : Nat} {r1 r2 r3 r4 r5 r6 r7 r9 r10 r11 r12 : Int} {r8 : Bool} {r0 : ByteArray} {r13 : Rows} (hN : 2097152 < N) (hs : r0.size ≤ 1048576) : AP N [.str r0, .int r1, .int r2, .int r3, .int r4, .int r5, .int r6, .int r7, .bool r8, .int r9, .int r10, .int r11, .int r12, .rows r13] = some [.int (H4 (⟨r0, r1, r2, r3, r4, r5, r6, r7, r8, r9, r10, r11, r12, r13⟩ : Rul))] := by
 exact KN N _ _ _ _ _ _ _ _ _ _ _ _ _ _ hN hs
theorem T6 {N : Nat} {r1 r2 r3 r4 r5 r6 r7 r9 r10 r11 r12 : Int} {r8 : Bool} {r0 : ByteArray} {r13 : Rows} (hN : 2097152 < N) (hs : r0.size ≤ 1048576) : Bq N [.str r0, .int r1, .int r2, .int r3, .int r4, .int r5, .int r6, .int r7, .bool r8, .int r9, .int r10, .int r11, .int r12, .rows r13] = some [.int (H4 (⟨r0, r1, r2, r3, r4, r5, r6, r7, r8, r9, r10, r11, r12, r13⟩ : Rul))] := by
 exact Ny N _ _ _ _ _ _ _ _ _ _ _ _ _ _ hN hs
end Go.Px
end
section
namespace Go.Px
set_option maxRecDepth 100000
structure Cre where
 batter : Int
 wides : Int
 noballs : Int
 byes : Int
 legbyes : Int
 bowler : Int
 counts : Bool
 faced : Bool
 wicket : Bool
 swap : Bool
def Cre.ls (c : Cre) : List PV := [.int c.batter, .int c.wides, .int c.noballs, .int c.byes, .int c.legbyes, .int c.bowler, .bool c.counts, .bool c.faced, .bool c.wicket, .bool c.swap]
end Go.Px
end
