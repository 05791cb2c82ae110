/- Part 9. -/
import Derived.Test.YtapipgdcgmmkaaaGreatDoorPart07
import Derived.Test.YtapipgdcgmmkaaaGreatDoorPart08
set_option linter.unusedVariables false
set_option linter.unusedSimpArgs false
section
namespace Go.Px
set_option maxRecDepth 100000
def btw (a b c : Int) : Bool := iLe b a && iLe a c
theorem Cd (N : Nat) (a b c : Int) : AR N [.int a, .int b, .int c] = some [.bool (btw a b c)] := by
 show some [PV.bool (cond (iLe b a) (iLe a c) false)] = _
 rw [Sw]; rfl
theorem E3 (N : Nat) (a b c : Int) : BO N [.int a, .int b, .int c] = some [.bool (btw a b c)] := by
 show some [PV.bool (cond (iLe b a) (iLe a c) false)] = _
 rw [Sw]; rfl
theorem Vk (N : Nat) (a b c : Int) : Ic N [.int a, .int b, .int c] = some [.bool (btw a b c)] := by
 show some [PV.bool (cond (iLe b a) (iLe a c) false)] = _
 rw [Sw]; rfl
def Dy (x1 x2 x3 x4 x5 x6 x7 x9 x10 x11 x12 : Int) : Bool := btw x1 2 11 && btw x2 1 2 && btw x3 0 90 && btw x4 4 8 && btw x5 0 90 && btw x6 1 5 && btw x7 1 5 && btw x9 0 200 && btw x10 0 1000 && btw x11 0 9 && btw x12 0 11
theorem Pc (N : Nat) (x0 : ByteArray) (x1 x2 x3 x4 x5 x6 x7 x9 x10 x11 x12 : Int) (x8 : Bool) (x13 : Rows) :
   Cc N [.str x0, .int x1, .int x2, .int x3, .int x4, .int x5, .int x6, .int x7, .bool x8, .int x9, .int x10, .int x11, .int x12, .rows x13] = some [.bool (Dy x1 x2 x3 x4 x5 x6 x7 x9 x10 x11 x12)] := by
  show Ds (std (ED N) N) (xOf _) = _
  have e : ∀ ls, ED N 117 [] ls = BO N ls := fun ls => rfl
  simp only [Ds, std, xOf, e, E3, PXb, PXc, PXn, AW, Dy]
def GH (s : ByteArray) (i : Nat) : Bool := !(iLe 65 (Ef s i) && iLe (Ef s i) 90) && ((i : Int) == 0 || ((!(Ef s i == 95) && !(Ef s i == 45)) && (iLt (Ef s i) 48 || iLt 57 (Ef s i))))
def Fz (s : ByteArray) : Bool := !Aq (GH s) s.size 0 && (iLe 1 s.size && iLe s.size 16)
theorem Xn (s : ByteArray) : (Ca s).length = s.size := by
 simp only [Ca, List.length_map, Array.length_toList]; rfl
theorem Xx (s : ByteArray) (i : Nat) (h : i < s.size) : pvI (AL (Ca s) i 0) = Ef s i := by
 unfold AL BP AF Ca Ef
 simp only [List.getD_eq_getElem?_getD, List.getElem?_map]
 have : i < s.data.toList.length := by simpa using h
 rw [List.getElem?_eq_getElem this]
 simp [List.getElem?_eq_getElem this]
theorem Ty (N : Nat) (s : ByteArray) (hN : s.size < N) (hs : s.size ≤ 1048576) : EW N [.str s] = some [.bool (Fz s)] := by
 show Gd (std (Lt N) N) (xOf _) = _
 simp only [Gd, std, xOf, Xn, PXb, PXc, PXn, AW]
 refine BE (DE (len := s.size) (GH s) [.bool false] ?_ ?_ N hN) ?_
 ·intro self
  simp only [PXb, PXc, PXn, AW, CN]
 ·intro i self hi
  simp only [PXb, PXc, PXn, AW, Int.toNat_natCast, Xx s i hi, BL (show i ≤ 1099511627776 by omega), CC hi, BH hi, GH]
 ·unfold Fz
  cases Aq (GH s) s.size 0 <;> rfl
theorem Wh (bs : ByteArray) (i : Nat) (r : List UInt8) : (ByteArray.toList.loop bs i r).length = r.length + (bs.size - i) := by
 induction i, r using ByteArray.toList.loop.induct (bs := bs) with
 | case1 i r h ih => unfold ByteArray.toList.loop; rw [if_pos h, ih]; simp; omega
 | case2 i r h => unfold ByteArray.toList.loop; rw [if_neg h]; simp; omega
theorem Qf (bs : ByteArray) : bs.toList.length = bs.size := by
 unfold ByteArray.toList; rw [Wh]; simp
theorem UY (s : ByteArray) : (s.toList == (⟨#[]⟩ : ByteArray).toList) = !iLe 1 (s.size : Int) := by
 have h := Qf s
 have h0 := Qf (⟨#[]⟩ : ByteArray)
 rw [Bool.eq_iff_iff]
 simp only [beq_iff_eq, iLe, Bool.not_eq_true', decide_eq_false_iff_not]
 constructor
 ·intro e; rw [e, h0] at h
  have : (⟨#[]⟩ : ByteArray).size = 0 := rfl
  omega
 ·intro e
  have e1 : s.toList = [] := List.eq_nil_of_length_eq_zero (by omega)
  have e2 : (⟨#[]⟩ : ByteArray).toList = [] := List.eq_nil_of_length_eq_zero h0
  rw [e1, e2]
theorem UV (N : Nat) (s : ByteArray) (hN : s.size < N) (hs : s.size ≤ 1048576) : FV N [.str s] = some [.bool (Fz s)] := by
 show H3 (std (Nb N) N) (xOf _) = _
 simp only [H3, std, xOf, PXb, PXc, PXn, AW, UY]
 have e : iLe 1 (s.size : Int) = false ∨ iLe 1 (s.size : Int) = true := by cases iLe 1 (s.size : Int) <;> simp
 have e2 : iLt 16 (s.size : Int) = !iLe (s.size : Int) 16 := by unfold iLt iLe; rw [Bool.eq_iff_iff]; simp
 rw [e2]
 cases h : iLe 1 (s.size : Int) && iLe (s.size : Int) 16 with
 | false =>
  have : (!iLe 1 (s.size : Int) || !iLe (s.size : Int) 16) = true := by rw [← Bool.not_and, h]; rfl
  simp only [this, cond_true, Fz, h, Bool.and_false]
 | true =>
  have : (!iLe 1 (s.size : Int) || !iLe (s.size : Int) 16) = false := by rw [← Bool.not_and, h]; rfl
  simp only [this, cond_false, Fz, h, Bool.and_true]
  refine BE (DE (len := s.size) (GH s) [.bool false] ?_ ?_ N hN) ?_
  ·intro self
   simp only [PXb, PXc, PXn, AW, CN]
  ·intro i self hi
   simp only [PXb, PXc, AW, Int.toNat_natCast, BL (show i ≤ 1099511627776 by omega), CC hi, BH hi, GH]
   cases (iLe 65 (Ef s i) && iLe (Ef s i) 90) <;> rfl
  ·cases Aq (GH s) s.size 0 <;> rfl
end Go.Px
end
section
namespace Go.Px
set_option maxRecDepth 100000
theorem Ug {i len : Nat} (h : i < len) (hl : len ≤ 1099511627776) : (!iLt 0 (i : Int) || iIn (IntKind.i64.wrap ((i : Int) - 1)) (len : Int)) = true := by
 rw [RC (by omega) (by omega)]
 simp only [iLt, iIn, Bool.or_eq_true, Bool.not_eq_true', decide_eq_false_iff_not, decide_eq_true_eq]
 omega
def U1 (L : Rows) (ov : Int) (i : Nat) : Bool := (iLt (atI L i 0) 1 || iLt (atI L i 1) (atI L i 0) || iLt ov (atI L i 1)) || !btw (atI L i 2) 0 11
def S5 (L : Rows) (i : Nat) : Bool := iLt 0 (i : Int) && iLe (atI L i 0) (pvI (AL L (IntKind.i64.wrap ((i : Int) - 1)).toNat 1))
def P9 (L : Rows) (ov : Int) (i : Nat) : Option (List PV) := cond (U1 L ov i) (some [.int 2]) (cond (S5 L i) (some [.int 8]) none)
def WD : Option (List PV) → Int
 | none => 0
 | some r => pvI (AF r 0)
def Q1 (L : Rows) (ov : Int) : Int := cond (iLt 8 (L.length : Int)) 9 (WD (Fa (P9 L ov) L.length 0))
theorem QT (o : Option (List PV)) : cond (pvI (AF (VF o) 0) == ((0 : Nat) : Int)) (some [PV.int (pvI (AF (VF o) 1))]) (some [PV.int 0]) = some [PV.int (WD o)] := by
 cases o <;> rfl
theorem Qz (N : Nat) (x0 : ByteArray) (x1 x2 x3 x4 x5 x6 x7 x9 x10 x11 x12 : Int) (x8 : Bool) (L : Rows) (hN : 2097152 < N) :
   C7 N [.str x0, .int x1, .int x2, .int x3, .int x4, .int x5, .int x6, .int x7, .bool x8, .int x9, .int x10, .int x11, .int x12, .rows L] = some [.int (Q1 L x3)] := by
  show EC (std (Er N) N) (xOf _) = _
  have e : ∀ ls, Er N 117 [] ls = BO N ls := fun ls => rfl
  simp only [EC, std, xOf, e, E3, PXb, PXc, PXn, AW, Q1]
  cases h8 : iLt 8 (L.length : Int) with
  | true => rfl
  | false =>
    have hl : L.length ≤ 8 := by simp [iLt] at h8; omega
    simp only [cond_false]
    refine BE (FE (len := L.length) (P9 L x3) ?_ ?_ L.length 0 N (by omega) (by omega)) ?_
    · intro self
      simp only [PXb, PXc, PXn, AW, CN]
    · intro i self hi
      simp only [PXb, PXc, PXn, AW, Int.toNat_natCast, BL (show i ≤ 1099511627776 by omega), CC hi, BH hi, E3, e, Ug hi (by omega)]
      simp only [P9, U1, S5, atI]
      cases (iLt (pvI (AL L i 0)) 1 || iLt (pvI (AL L i 1)) (pvI (AL L i 0)) || iLt x3 (pvI (AL L i 1)) || !btw (pvI (AL L i 2)) 0 11) <;>
      cases (iLt 0 (i : Int) && iLe (pvI (AL L i 0)) (pvI (AL L (IntKind.i64.wrap ((i : Int) - 1)).toNat 1))) <;> rfl
    · exact QT _
def C8 (x0 : ByteArray) (x1 x2 x3 x4 x5 x6 x7 x9 x10 x11 x12 : Int) (L : Rows) : Int :=
  cond (!Fz x0) 5 (cond (!Dy x1 x2 x3 x4 x5 x6 x7 x9 x10 x11 x12) 2
    (cond ((!(x10 == 0) && x2 == 1) || ((!(x5 == 0) || iLt 0 (L.length : Int)) && x3 == 0)) 1
      (cond (!(x5 == 0) && iLt (IntKind.i64.wrap (x5 * x1)) x3) 13 (Q1 L x3))))
theorem Ko (N : Nat) (x0 : ByteArray) (x1 x2 x3 x4 x5 x6 x7 x9 x10 x11 x12 : Int) (x8 : Bool) (L : Rows) (hN : 2097152 < N) (hs : x0.size ≤ 1048576) :
   AP N [.str x0, .int x1, .int x2, .int x3, .int x4, .int x5, .int x6, .int x7, .bool x8, .int x9, .int x10, .int x11, .int x12, .rows L] = some [.int (C8 x0 x1 x2 x3 x4 x5 x6 x7 x9 x10 x11 x12 L)] := by
  show Ej (std (Ch N) N) (xOf _) = _
  have e : ∀ ls, Ch N 76 [] ls = EW N ls := fun ls => rfl
  have e2 : ∀ ls, Ch N 77 [] ls = Cc N ls := fun ls => rfl
  have e3 : ∀ ls, Ch N 78 [] ls = C7 N ls := fun ls => rfl
  simp only [Ej, std, xOf, e, e2, e3, Ty N x0 (by omega) hs, Pc, Qz N _ _ _ _ _ _ _ _ _ _ _ _ _ _ hN, PXb, PXc, AW, C8]
  cases Fz x0 <;> cases Dy x1 x2 x3 x4 x5 x6 x7 x9 x10 x11 x12 <;> try rfl
  simp only [PXb, PXc, AW, Bool.not_true]
  cases (!(x10 == 0) && x2 == 1) <;> cases ((!(x5 == 0) || iLt 0 (L.length : Int)) && x3 == 0) <;> try rfl
  cases (!(x5 == 0) && iLt (IntKind.i64.wrap (x5 * x1)) x3) <;> rfl
theorem To (N : Nat) (x0 : ByteArray) (x1 x2 x3 x4 x5 x6 x7 x9 x10 x11 x12 : Int) (x8 : Bool) (L : Rows) (hN : 2097152 < N) (hs : x0.size ≤ 1048576) :
   Db N [.str x0, .int x1, .int x2, .int x3, .int x4, .int x5, .int x6, .int x7, .bool x8, .int x9, .int x10, .int x11, .int x12, .rows L] = some [.int (C8 x0 x1 x2 x3 x4 x5 x6 x7 x9 x10 x11 x12 L)] := by
  show Gh (std (Eb N) N) (xOf _) = _
  have e : ∀ ls, Eb N 84 [] ls = FV N ls := fun ls => rfl
  have e2 : ∀ ls, Eb N 85 [] ls = Ic N ls := fun ls => rfl
  simp only [Gh, std, xOf, e, e2, UV N x0 (by omega) hs, Vk, PXb, PXc, PXn, AW]
  simp only [← Bool.not_and, C8]
  rw [show (btw x1 2 11 && btw x2 1 2 && btw x3 0 90 && btw x4 4 8 && btw x5 0 90 && btw x6 1 5 && btw x7 1 5 && btw x9 0 200 && btw x10 0 1000 && btw x11 0 9 && btw x12 0 11) = Dy x1 x2 x3 x4 x5 x6 x7 x9 x10 x11 x12 from rfl]
  rw [Bool.and_comm (x3 == 0)]
  cases Fz x0 <;> cases Dy x1 x2 x3 x4 x5 x6 x7 x9 x10 x11 x12 <;> try rfl
  cases (!(x10 == 0) && x2 == 1) || ((!(x5 == 0) || iLt 0 (L.length : Int)) && x3 == 0) <;> try rfl
  cases (!(x5 == 0) && iLt (IntKind.i64.wrap (x5 * x1)) x3) <;> try rfl
  simp only [Bool.not_true, cond_false, Q1]
  cases h8 : iLt 8 (L.length : Int) with
  | true => rfl
  | false =>
    have hl : L.length ≤ 8 := by simp [iLt] at h8; omega
    simp only [cond_false]
    refine BE (FE (len := L.length) (P9 L x3) ?_ ?_ L.length 0 N (by omega) (by omega)) ?_
    · intro self
      simp only [PXb, PXc, PXn, AW, CN]
    · intro i self hi
      simp only [PXb, PXc, PXn, AW, Int.toNat_natCast, BL (show i ≤ 1099511627776 by omega), CC hi, BH hi, Ug hi (by omega)]
      simp only [P9, U1, S5, atI]
      cases (iLt (pvI (AL L i 0)) 1 || iLt (pvI (AL L i 1)) (pvI (AL L i 0)) || iLt x3 (pvI (AL L i 1)) || !btw (pvI (AL L i 2)) 0 11) <;>
      cases (iLt 0 (i : Int) && iLe (pvI (AL L i 0)) (pvI (AL L (IntKind.i64.wrap ((i : Int) - 1)).toNat 1))) <;> rfl
    · exact QT _
end Go.Px
end
section
namespace Go.Px
set_option maxRecDepth 100000
theorem MY (N : Nat) (L : Rows) (v : Int) (hN : L.length < N) (hl : L.length ≤ 2097152) : Bp N [.rows L, .int v] = some [.int (Uk (fun j => v == atI L j 0) L.length)] := by
 show CY (std (FP N) N) (xOf _) = _
 simp only [CY, std, xOf, PXb, PXc, PXn, AW]
 refine BE (FE (len := L.length) (Lm fun j => v == atI L j 0) ?_ ?_ L.length 0 N (by omega) (by omega)) ?_
 ·intro self
  simp only [PXb, PXc, PXn, AW, CN]
 ·intro i self hi
  simp only [PXb, PXc, PXn, AW, BL (show i ≤ 1099511627776 by omega), CC hi, BH hi, Lm, H9]
  cases v == atI L i 0 <;> rfl
 ·unfold Uk
  cases Fa (Lm fun j => v == atI L j 0) L.length 0 <;> rfl
def RU (L : Rows) (k : Nat) (v : Int) : Bool := Aq (fun j => v == atI L j 0) k 0
theorem J7 (N : Nat) (L : Rows) (v : Int) (hN : L.length < N) (hl : L.length ≤ 2097152) : Ae N [.rows L, .int v] = some [.bool (RU L L.length v)] := by
 show Bw (std (CR N) N) (xOf _) = _
 have e : ∀ ls, CR N 136 [] ls = Bp N ls := fun ls => rfl
 simp only [Bw, std, xOf, PXb, PXc, PXn, AW, e, MY N L v hN hl, Qx, RU]
theorem WW (L : Rows) (i : Nat) (v : Int) (h : i ≤ L.length) : RU (L.take i) (L.take i).length v = RU L i v := by
 rw [List.length_take, Nat.min_eq_left h]
 exact Qr i 0 (fun j _ hj => by rw [Wl (by omega)])
def OC (L : Rows) (n : Int) (i : Nat) : Bool := !btw (atI L i 0) 1 n || RU L i (atI L i 0)
def HE (L : Rows) (n : Int) : Bool := !Aq (OC L n) L.length 0
theorem FR (N : Nat) (L : Rows) (n : Int) (hN : L.length < N) (hl : L.length ≤ 2097152) : Bj N [.rows L, .int n] = some [.bool (HE L n)] := by
 show CO (std (B0 N) N) (xOf _) = _
 have e : ∀ ls, B0 N 79 [] ls = AR N ls := fun ls => rfl
 have e2 : ∀ ls, B0 N 118 [] ls = Ae N ls := fun ls => rfl
 simp only [CO, std, xOf, PXb, PXc, PXn, AW]
 refine BE (DE (len := L.length) (OC L n) [.bool false] ?_ ?_ N hN) ?_
 ·intro self
  simp only [PXb, PXc, PXn, AW, CN]
 ·intro i self hi
  have h1 : (L.take i).length ≤ L.length := List.length_take_le' i L
  simp only [PXb, PXc, PXn, AW, BL (show i ≤ 1099511627776 by omega), CC hi, BH hi, e, e2, Cd, X5 (Nat.le_of_lt hi), Int.toNat_zero, List.drop_zero, J7 N (L.take i) _ (by omega) (by omega), WW L i _ (by omega), H9, OC]
  cases btw (atI L i 0) 1 n <;> cases RU L i (atI L i 0) <;> rfl
 ·unfold HE
  cases Aq (OC L n) L.length 0 <;> rfl
def lsI (L14 L16 L17 L19 L24 : Rows) (b18 b20 : Bool) (x0 x1 x2 x3 x4 x5 x6 x7 x8 x9 x10 x11 x12 x13 x15 x21 x22 x23 x25 x26 x27 : Int) : List PV :=
 [.int x0, .int x1, .int x2, .int x3, .int x4, .int x5, .int x6, .int x7, .int x8, .int x9, .int x10, .int x11, .int x12, .int x13, .rows L14, .int x15, .rows L16, .rows L17, .bool b18, .rows L19, .bool b20, .int x21, .int x22, .int x23, .rows L24, .int x25, .int x26, .int x27]
theorem LZ (N : Nat) (v : Int) : Bk N [.int v] = some [.bool (!btw v 0 1000000000)] := by
 show CP (std (Cz N) N) (xOf _) = _
 have e : ∀ ls, Cz N 79 [] ls = AR N ls := fun ls => rfl
 simp only [CP, std, xOf, PXb, PXc, PXn, AW, e, Cd]
end Go.Px
end
section
namespace Go.Px
set_option maxRecDepth 100000
def pIs (L : Rows) (v : Int) (i : Nat) : Bool := atI L i 0 == v
def NV (s n : Int) (i : Nat) : Bool := s == (i : Int) + 1 || n == (i : Int) + 1
def Ht (L : Rows) (s n : Int) (i : Nat) : Bool := iLt 3 (atI L i 0) || (pIs L 1 i && !NV s n i)
def QQ (L : Rows) (s n : Int) (i : Nat) : Bool := iLt 3 (atI L i 0) || !(pIs L 1 i == NV s n i)
def Rr (L : Rows) : Int := BS (pIs L 2) L.length
def ins (L : Rows) : Int := BS (pIs L 1) L.length
def two (s n : Int) : Int := cond (!(n == 0)) (IntKind.i64.wrap (cond (!(s == 0)) (IntKind.i64.wrap (0 + 1)) 0 + 1)) (cond (!(s == 0)) (IntKind.i64.wrap (0 + 1)) 0)
def Sv (L : Rows) (s n wk k : Int) : Bool :=
 !Aq (Ht L s n) L.length 0 && ((btw s 0 k && btw n 0 k) && (!(s == n && !(s == 0)) && ((two s n == ins L && (!Qc L || iLt 0 (two s n))) && Rr L == wk)))
def QW (L : Rows) (s n wk : Int) : Bool :=
 !Aq (QQ L s n) L.length 0 && (!((Qc L && iLt (ins L) 1) || (!(s == 0) && s == n)) && wk == Rr L)
def VG (L : Rows) : Nat → Bool
 | 0 => false
 | i + 1 => VG L i || !(atI L i 0 == 0)
theorem Ud (L : Rows) : ∀ i, VG L i = Aq (fun j => !(atI L j 0 == 0)) i 0
 | 0 => rfl
 | i + 1 => by rw [R4, Nat.zero_add, ← Ud L i]; rfl
section
variable (N : Nat) (L14 L16 L17 L19 L24 : Rows) (b18 b20 : Bool) (x0 x1 x2 x3 x4 x5 x6 x7 x8 x9 x10 x11 x12 x13 x15 x21 x22 x23 x25 x26 x27 : Int)
theorem Nk (k : Int) (hN : L14.length < N) (hl : L14.length ≤ 2097152) : CD N (lsI L14 L16 L17 L19 L24 b18 b20 x0 x1 x2 x3 x4 x5 x6 x7 x8 x9 x10 x11 x12 x13 x15 x21 x22 x23 x25 x26 x27 ++ [.int k]) = some [.bool (Sv L14 x12 x13 x4 k)] := by
  simp only [lsI, List.cons_append, List.nil_append]
  show Cq (std (Dk N) N) (xOf _) = _
  have e : ∀ ls, Dk N 79 [] ls = AR N ls := fun ls => rfl
  simp only [Cq, std, xOf, lsI, PXb, PXc, PXn, AW]
  refine BE (T6 (len := L14.length) (fun i => [.int (BS (pIs L14 2) i), .int (BS (pIs L14 1) i), .bool (VG L14 i), .int (i : Int)])
    (Ht L14 x12 x13) [.int 0, .bool false] [.int 1, .int (Rr L14), .int (ins L14), .bool (Qc L14)] ?_ ?_ N hN) ?_
  · intro self
    simp only [PXb, PXc, PXn, AW, CN, Ud]
    rfl
  · intro i self hi
    simp only [PXb, PXc, AW, BL (show i ≤ 1099511627776 by omega), CC hi, BH hi, H9, Th (pIs L14 2) (show i ≤ 1099511627776 by omega), Th (pIs L14 1) (show i ≤ 1099511627776 by omega)]
    unfold Ht pIs NV
    simp only [BS, VG]
    cases h3 : iLt 3 (atI L14 i 0) with
    | true => rfl
    | false =>
      cases h1 : atI L14 i 0 == 1 with
      | true =>
        rw [XO h1]
        cases x12 == (i : Int) + 1 <;> cases x13 == (i : Int) + 1 <;> rfl
      | false => cases h2 : atI L14 i 0 == 2 <;> rfl
  · unfold Sv
    simp only [e, Cd]
    cases Aq (Ht L14 x12 x13) L14.length 0 with
    | true => rfl
    | false =>
      simp only [PXb, PXc, PXn, AW]
      unfold two
      cases btw x12 0 k <;> cases btw x13 0 k <;> try rfl
      cases x12 == 0 <;> cases x13 == 0 <;> cases x12 == x13 <;> try rfl
end
end Go.Px
end
section
namespace Go.Px
set_option maxRecDepth 100000
theorem XD (s n : Int) : two s n = cond (!(s == 0)) 1 0 + cond (!(n == 0)) 1 0 := by
 unfold two
 cases s == 0 <;> cases n == 0 <;> rfl
theorem XP {s n : Int} {len : Nat} (h1 : 0 ≤ s ∧ s ≤ (len : Int)) (h2 : 0 ≤ n ∧ n ≤ (len : Int)) (hd : (s == n && !(s == 0)) = false) : two s n = BS (NV s n) len := by
 have hs : iLe s (len : Int) = true := by simp only [iLe, decide_eq_true_eq]; omega
 have hn : iLe n (len : Int) = true := by simp only [iLe, decide_eq_true_eq]; omega
 unfold NV
 rw [V2 (p := fun i => s == (i : Int) + 1) (q := fun i => n == (i : Int) + 1) len (fun j _ hp => by
  have e1 : s = (j : Int) + 1 := by simpa using hp
  show (n == (j : Int) + 1) = false
  rw [beq_eq_false_iff_ne]
  intro e2
  have e3 : (s == n) = true := by rw [beq_iff_eq]; omega
  have e4 : (s == 0) = false := by rw [beq_eq_false_iff_ne]; omega
  rw [e3, e4] at hd; cases hd), Tg s len h1.1, Tg n len h2.1, hs, hn, Bool.and_true, Bool.and_true, XD]
theorem XM (x : Int) : iLt 0 x = !iLt x 1 := by
 unfold iLt
 rw [Bool.eq_iff_iff]
 simp only [decide_eq_true_eq, Bool.not_eq_true', decide_eq_false_iff_not]
 omega
theorem WN {L : Rows} {s n : Int} (h1 : 0 ≤ s ∧ s ≤ (L.length : Int)) (h2 : 0 ≤ n ∧ n ≤ (L.length : Int)) (hd : (s == n && !(s == 0)) = false) :
    (!Aq (Ht L s n) L.length 0 && two s n == ins L) = !Aq (QQ L s n) L.length 0 := by
  have h2c := XP h1 h2 hd
  rw [Bool.eq_iff_iff]
  simp only [Bool.and_eq_true, Bool.not_eq_true', H1, beq_iff_eq]
  constructor
  · intro ⟨ha, hb⟩ j _ hj
    have hm : ∀ j, j < L.length → pIs L 1 j = true → NV s n j = true := fun j hj hp => by
      have := ha j (Nat.zero_le _) (by omega)
      unfold Ht at this
      rw [hp] at this
      simp only [Bool.or_eq_false_iff, Bool.true_and, Bool.not_eq_false'] at this
      exact this.2
    have he := V6 L.length hm (by rw [← h2c, hb]; rfl) j (by omega)
    have := ha j (Nat.zero_le _) hj
    unfold Ht at this
    unfold QQ
    rw [Bool.or_eq_false_iff] at this ⊢
    exact ⟨this.1, by rw [he]; simp⟩
  · intro ha
    have hm : ∀ j, j < L.length → pIs L 1 j = NV s n j := fun j hj => by
      have := ha j (Nat.zero_le _) (by omega)
      unfold QQ at this
      rw [Bool.or_eq_false_iff] at this
      simpa using this.2
    refine ⟨fun j h0 hj => ?_, ?_⟩
    · have := ha j h0 hj
      unfold QQ at this
      unfold Ht
      rw [Bool.or_eq_false_iff] at this ⊢
      refine ⟨this.1, ?_⟩
      rw [hm j (by omega)]
      cases NV s n j <;> rfl
    · rw [h2c]
      exact (SF L.length hm).symm
theorem Xl (L : Rows) (s n wk k : Int) (hk : (L.length : Int) = k) : Sv L s n wk k = (btw s 0 k && btw n 0 k && QW L s n wk) := by
 subst hk
 unfold Sv QW
 cases hs : btw s 0 (L.length : Int) with
 | false => simp only [Bool.false_and, Bool.and_false]
 | true =>
  cases hn : btw n 0 (L.length : Int) with
  | false => simp only [Bool.false_and, Bool.and_false]
  | true =>
   have h1 : 0 ≤ s ∧ s ≤ (L.length : Int) := by simpa [btw, iLe] using hs
   have h2 : 0 ≤ n ∧ n ≤ (L.length : Int) := by simpa [btw, iLe] using hn
   simp only [Bool.true_and]
   cases hd : (s == n && !(s == 0)) with
   | true =>
    have : (!(s == 0) && s == n) = true := by rw [Bool.and_comm]; exact hd
    rw [this]
    simp only [Bool.or_true, Bool.not_true, Bool.false_and, Bool.and_false]
   | false =>
    have : (!(s == 0) && s == n) = false := by rw [Bool.and_comm]; exact hd
    rw [this, ← WN h1 h2 hd]
    simp only [Bool.or_false, Bool.not_false, Bool.true_and]
    rw [show (wk == Rr L) = (Rr L == wk) from BEq.comm]
    cases hA : Aq (Ht L s n) L.length 0 with
    | true => rfl
    | false =>
     cases hB : two s n == ins L with
     | false => rfl
     | true =>
      rw [beq_iff_eq.1 hB, XM]
      simp only [Bool.true_and, Bool.not_false, Bool.not_and]
end Go.Px
end
section
namespace Go.Px
set_option maxRecDepth 100000
def G5 (v : Int) : Bool := !btw v 0 1000000000
def WP (x1 x3 x5 x6 x7 x8 x9 x10 x21 x23 x25 x26 : Int) : Rows := [[.int x1], [.int x3], [.int x5], [.int x6], [.int x7], [.int x8], [.int x9], [.int x10], [.int x21], [.int x23], [.int x25], [.int x26]]
section
variable (N : Nat) (L14 L16 L17 L19 L24 : Rows) (b18 b20 : Bool) (x0 x1 x2 x3 x4 x5 x6 x7 x8 x9 x10 x11 x12 x13 x15 x21 x22 x23 x25 x26 x27 : Int)
theorem NU (hN : 2097152 < N) (hl : L19.length ≤ 1048576) : CE N (lsI L14 L16 L17 L19 L24 b18 b20 x0 x1 x2 x3 x4 x5 x6 x7 x8 x9 x10 x11 x12 x13 x15 x21 x22 x23 x25 x26 x27) = some [.bool (!(II G5 (WP x1 x3 x5 x6 x7 x8 x9 x10 x21 x23 x25 x26) || II G5 L19))] := by
 show Cl (std (De N) N) (xOf (lsI ..)) = _
 have e : ∀ ls, De N 120 [] ls = Bk N ls := fun ls => rfl
 rw [← WY]
 simp only [Cl, std, xOf, lsI, PXb, PXc, PXn, AW, WP]
 generalize hM : ([PV.int x1] :: [PV.int x3] :: [PV.int x5] :: [PV.int x6] :: [PV.int x7] :: [PV.int x8] :: [PV.int x9] :: [PV.int x10] :: [PV.int x21] :: [PV.int x23] :: [PV.int x25] :: [PV.int x26] :: L19 : Rows) = M
 have hM2 : M.length ≤ 2097152 := by rw [← hM]; simp only [List.length_cons]; omega
 rw [VD (n := M.length) (by omega) (by omega)]
 simp only [PXb, PXc, PXn, AW]
 rw [Option.bind_assoc]
 refine BE (FE (len := M.length) (Lm fun i => G5 (atI M i 0)) ?_ ?_ M.length 0 N (by omega) (by omega)) ?_
 ·intro self
  simp only [PXb, PXc, PXn, AW, CN]
 ·intro i self hi
  simp only [PXb, PXc, PXn, AW, BL (show i ≤ 1099511627776 by omega), CC hi, BH hi, Lm, H9, e, LZ, G5]
  cases btw (atI M i 0) 0 1000000000 <;> rfl
 ·unfold II
  rw [← Qx]
  unfold Uk
  cases Fa (Lm fun i => G5 (atI M i 0)) M.length 0 <;> rfl
end
def Rs (a3 x2 : Int) : Bool := cond (a3 == 0) (x2 == 0) (btw x2 1 a3)
def Tj (s : ByteArray) (a1 a2 a3 a4 a5 a6 a7 a9 a10 a11 a12 : Int) (La L14 L16 L17 L19 L24 : Rows) (x0 x1 x2 x3 x4 x5 x6 x7 x8 x9 x10 x11 x12 x13 x15 x21 x22 x23 x25 x26 x27 : Int) : Bool :=
  C8 s a1 a2 a3 a4 a5 a6 a7 a9 a10 a11 a12 La == 0 && (btw x0 1 2 && ((L14.length : Int) == a1 && ((L19.length : Int) == a1 && ((L24.length : Int) == a1 && (!iLt 5 x27 &&
    (btw x12 0 a1 && (btw x13 0 a1 && (QW L14 x12 x13 x4 && (btw x15 0 a1 && (btw x22 0 a1 && (HE L16 a1 && (HE L17 a1 && (Rs a3 x2 && (btw x11 0 (IntKind.i64.wrap (a4 - 1)) &&
      (!II G5 (WP x1 x3 x5 x6 x7 x8 x9 x10 x21 x23 x25 x26) && !II G5 L19)))))))))))))))
section
variable (N : Nat) (s : ByteArray) (a1 a2 a3 a4 a5 a6 a7 a9 a10 a11 a12 : Int) (a8 : Bool) (La : Rows) (L14 L16 L17 L19 L24 : Rows) (b18 b20 : Bool) (x0 x1 x2 x3 x4 x5 x6 x7 x8 x9 x10 x11 x12 x13 x15 x21 x22 x23 x25 x26 x27 : Int)
theorem Ph (hN : 2097152 < N) (hs : s.size ≤ 1048576) (h14 : L14.length ≤ 1048576) (h16 : L16.length ≤ 1048576) (h17 : L17.length ≤ 1048576) (h19 : L19.length ≤ 1048576) : A3 N ([.str s, .int a1, .int a2, .int a3, .int a4, .int a5, .int a6, .int a7, .bool a8, .int a9, .int a10, .int a11, .int a12, .rows La] ++ lsI L14 L16 L17 L19 L24 b18 b20 x0 x1 x2 x3 x4 x5 x6 x7 x8 x9 x10 x11 x12 x13 x15 x21 x22 x23 x25 x26 x27) = some [.bool (Tj s a1 a2 a3 a4 a5 a6 a7 a9 a10 a11 a12 La L14 L16 L17 L19 L24 x0 x1 x2 x3 x4 x5 x6 x7 x8 x9 x10 x11 x12 x13 x15 x21 x22 x23 x25 x26 x27)] := by
 simp only [lsI, List.cons_append, List.nil_append]
 show Dm (std (BM N) N) (xOf _) = _
 have e1 : ∀ ls, BM N 40 [] ls = AP N ls := fun ls => rfl
 have e2 : ∀ ls, BM N 79 [] ls = AR N ls := fun ls => rfl
 have e3 : ∀ ls, BM N 80 [] ls = CD N ls := fun ls => rfl
 have e4 : ∀ ls, BM N 81 [] ls = Bj N ls := fun ls => rfl
 have e5 : ∀ ls, BM N 82 [] ls = CE N ls := fun ls => rfl
 have l54 := Nk N L14 L16 L17 L19 L24 b18 b20 x0 x1 x2 x3 x4 x5 x6 x7 x8 x9 x10 x11 x12 x13 x15 x21 x22 x23 x25 x26 x27 a1 (by omega) (by omega)
 have l56 := NU N L14 L16 L17 L19 L24 b18 b20 x0 x1 x2 x3 x4 x5 x6 x7 x8 x9 x10 x11 x12 x13 x15 x21 x22 x23 x25 x26 x27 (by omega) (by omega)
 simp only [lsI, List.cons_append, List.nil_append] at l54 l56
 simp only [Dm, std, xOf, PXb, PXc, PXn, AW, e1, e2, e3, e4, e5, Ko N s _ _ _ _ _ _ _ _ _ _ _ _ _ hN hs, Cd, l54, l56, FR N L16 _ (by omega) (by omega), FR N L17 _ (by omega) (by omega)]
 unfold Tj Rs
 cases hc : C8 s a1 a2 a3 a4 a5 a6 a7 a9 a10 a11 a12 La == 0 <;> try rfl
 cases btw x0 1 2 <;> try rfl
 cases h14 : (L14.length : Int) == a1 <;> try rfl
 cases (L19.length : Int) == a1 <;> try rfl
 cases (L24.length : Int) == a1 <;> try rfl
 cases iLt 5 x27 <;> try rfl
 rw [Xl L14 x12 x13 x4 a1 (beq_iff_eq.1 h14)]
 cases btw x12 0 a1 <;> try rfl
 cases btw x13 0 a1 <;> try rfl
 cases QW L14 x12 x13 x4 <;> try rfl
 cases btw x15 0 a1 <;> try rfl
 cases btw x22 0 a1 <;> try rfl
 cases HE L16 a1 <;> try rfl
 cases HE L17 a1 <;> try rfl
 cases a3 == 0 <;> cases x2 == 0 <;> cases btw x2 1 a3 <;> rfl
end
end Go.Px
end
section
namespace Go.Px
set_option maxRecDepth 100000
theorem W1 {c : Int} {n : Nat} (hc : 0 ≤ c) : iRg 0 (cond (iLt c (n : Int)) c (n : Int)) (n : Int) = true := by
 cases h : iLt c (n : Int) with
 | true => simp only [iLt, decide_eq_true_eq] at h; simp only [cond_true, iRg, decide_eq_true_eq]; omega
 | false => simp only [cond_false, iRg, decide_eq_true_eq]; omega
def cut (L : Rows) (c : Int) : Rows := (L.take (cond (iLt c (L.length : Int)) c (L.length : Int)).toNat).drop (0 : Int).toNat
def NN (s : ByteArray) (c : Int) : ByteArray := s.extract (0 : Int).toNat (cond (iLt c (s.size : Int)) c (s.size : Int)).toNat
theorem WJ (s : ByteArray) (c : Int) : (NN s c).size ≤ s.size := by
 unfold NN
 rw [ByteArray.size_extract]
 omega
end Go.Px
end
section
namespace Go.Px
set_option maxRecDepth 100000
def Bb (r : Rul) : Int := C8 r.name r.side r.innings r.overs r.balls r.quota r.wide r.noball r.newball r.followon r.reviews r.outside r.power
theorem L4 {N : Nat} {r1 r2 r3 r4 r5 r6 r7 r9 r10 r11 r12 : Int} {r8 : Bool} {r0 : ByteArray} {r13 : Rows} (hN : 2097152 < N) (hs : r0.size ≤ 1048576) : AP N [.str r0, .int r1, .int r2, .int r3, .int r4, .int r5, .int r6, .int r7, .bool r8, .int r9, .int r10, .int r11, .int r12, .rows r13] = some [.int (Bb (⟨r0, r1, r2, r3, r4, r5, r6, r7, r8, r9, r10, r11, r12, r13⟩ : Rul))] := by
 exact Ko N _ _ _ _ _ _ _ _ _ _ _ _ _ _ hN hs
theorem UX {N : Nat} {r1 r2 r3 r4 r5 r6 r7 r9 r10 r11 r12 : Int} {r8 : Bool} {r0 : ByteArray} {r13 : Rows} (hN : 2097152 < N) (hs : r0.size ≤ 1048576) : Db N [.str r0, .int r1, .int r2, .int r3, .int r4, .int r5, .int r6, .int r7, .bool r8, .int r9, .int r10, .int r11, .int r12, .rows r13] = some [.int (Bb (⟨r0, r1, r2, r3, r4, r5, r6, r7, r8, r9, r10, r11, r12, r13⟩ : Rul))] := by
 exact To N _ _ _ _ _ _ _ _ _ _ _ _ _ _ hN hs
def atB (L : Rows) (i j : Nat) : Bool := pvB (AL L i j)
theorem XN (L : Rows) (i j : Nat) : pvB (AL L i j) = atB L i j := rfl
end Go.Px
end
section
namespace Go.Px
set_option maxRecDepth 100000
structure Cre where
 batter : Int
 wides : Int
 noballs : Int
 byes : Int
 legbyes : Int
 bowler : Int
 counts : Bool
 faced : Bool
 wicket : Bool
 swap : Bool
def Cre.ls (c : Cre) : List PV := [.int c.batter, .int c.wides, .int c.noballs, .int c.byes, .int c.legbyes, .int c.bowler, .bool c.counts, .bool c.faced, .bool c.wicket, .bool c.swap]
end Go.Px
end
section
namespace Go.Px
set_option maxRecDepth 100000
def uB (k : Int) : Bool := k == 4
theorem c4 {c x x' y y' : Bool} {a b d z z' : Int} (h1 : x = x') (h2 : y = y') (h3 : z = z') : (some [PV.int (cond c a (cond x b (cond y d z)))] : Option (List PV)) = some [PV.int (cond c a (cond x' b (cond y' d z')))] := by subst h1; subst h2; subst h3; rfl
end Go.Px
end
