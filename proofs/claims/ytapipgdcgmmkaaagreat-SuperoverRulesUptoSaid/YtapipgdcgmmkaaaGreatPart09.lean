/- Part 9. -/
import Derived.Test.YtapipgdcgmmkaaaGreatPart07
import Derived.Test.YtapipgdcgmmkaaaGreatPart08
set_option linter.unusedVariables false
set_option linter.unusedSimpArgs false
section
namespace Go.Px
set_option maxRecDepth 100000
def btw (a b c : Int) : Bool := iLe b a && iLe a c
theorem EM (N : Nat) (a b c : Int) : BG N [.int a, .int b, .int c] = some [.bool (btw a b c)] := by
 show some [PV.bool (cond (iLe b a) (iLe a c) false)] = _
 rw [S0]; rfl
theorem TS (N : Nat) (a b c : Int) : Hn N [.int a, .int b, .int c] = some [.bool (btw a b c)] := by
 show some [PV.bool (cond (iLe b a) (iLe a c) false)] = _
 rw [S0]; rfl
def CG (x1 x2 x3 x4 x5 x6 x7 x9 x10 x11 x12 : Int) : Bool := btw x1 2 11 && btw x2 1 2 && btw x3 0 90 && btw x4 4 8 && btw x5 0 90 && btw x6 1 5 && btw x7 1 5 && btw x9 0 200 && btw x10 0 1000 && btw x11 0 9 && btw x12 0 11
theorem N0 (N : Nat) (x0 : ByteArray) (x1 x2 x3 x4 x5 x6 x7 x9 x10 x11 x12 : Int) (x8 : Bool) (x13 : Rows) :
   B6 N [.str x0, .int x1, .int x2, .int x3, .int x4, .int x5, .int x6, .int x7, .bool x8, .int x9, .int x10, .int x11, .int x12, .rows x13] = some [.bool (CG x1 x2 x3 x4 x5 x6 x7 x9 x10 x11 x12)] := by
  show DC (std (Dj N) N) (xOf _) = _
  have e : ∀ ls, Dj N 47 [] ls = BG N ls := fun ls => rfl
  simp only [DC, std, xOf, e, EM, PXb, PXc, PXn, Bo, CG]
def FZ (s : ByteArray) (i : Nat) : Bool := !(iLe 65 (Dz s i) && iLe (Dz s i) 90) && ((i : Int) == 0 || ((!(Dz s i == 95) && !(Dz s i == 45)) && (iLt (Dz s i) 48 || iLt 57 (Dz s i))))
def Dt (s : ByteArray) : Bool := !Ch (FZ s) s.size 0 && (iLe 1 s.size && iLe s.size 16)
theorem Uq (s : ByteArray) : (CB s).length = s.size := by
 simp only [CB, List.length_map, Array.length_toList]; rfl
theorem VI (s : ByteArray) (i : Nat) (h : i < s.size) : pvI (AY (CB s) i 0) = Dz s i := by
 unfold AY BW AG CB Dz
 simp only [List.getD_eq_getElem?_getD, List.getElem?_map]
 have : i < s.data.toList.length := by simpa using h
 rw [List.getElem?_eq_getElem this]
 simp [List.getElem?_eq_getElem this]
theorem Q0 (N : Nat) (s : ByteArray) (hN : s.size < N) (hs : s.size ≤ 1048576) : Du N [.str s] = some [.bool (Dt s)] := by
 show Fr (std (Kx N) N) (xOf _) = _
 simp only [Fr, std, xOf, Uq, PXb, PXc, PXn, Bo]
 refine F1 (RA (len := s.size) (FZ s) [.bool false] ?_ ?_ N hN) ?_
 ·intro self
  simp only [PXb, PXc, PXn, Bo, Mk]
 ·intro i self hi
  simp only [PXb, PXc, PXn, Bo, Int.toNat_natCast, VI s i hi, Hs (show i ≤ 1099511627776 by omega), Lc hi, Hj hi, FZ]
 ·unfold Dt
  cases Ch (FZ s) s.size 0 <;> rfl
theorem Tr (bs : ByteArray) (i : Nat) (r : List UInt8) : (ByteArray.toList.loop bs i r).length = r.length + (bs.size - i) := by
 induction i, r using ByteArray.toList.loop.induct (bs := bs) with
 | case1 i r h ih => unfold ByteArray.toList.loop; rw [if_pos h, ih]; simp; omega
 | case2 i r h => unfold ByteArray.toList.loop; rw [if_neg h]; simp; omega
theorem Oq (bs : ByteArray) : bs.toList.length = bs.size := by
 unfold ByteArray.toList; rw [Tr]; simp
theorem R3 (s : ByteArray) : (s.toList == (⟨#[]⟩ : ByteArray).toList) = !iLe 1 (s.size : Int) := by
 have h := Oq s
 have h0 := Oq (⟨#[]⟩ : ByteArray)
 rw [Bool.eq_iff_iff]
 simp only [beq_iff_eq, iLe, Bool.not_eq_true', decide_eq_false_iff_not]
 constructor
 ·intro e; rw [e, h0] at h
  have : (⟨#[]⟩ : ByteArray).size = 0 := rfl
  omega
 ·intro e
  have e1 : s.toList = [] := List.eq_nil_of_length_eq_zero (by omega)
  have e2 : (⟨#[]⟩ : ByteArray).toList = [] := List.eq_nil_of_length_eq_zero h0
  rw [e1, e2]
theorem SG (N : Nat) (s : ByteArray) (hN : s.size < N) (hs : s.size ≤ 1048576) : Ee N [.str s] = some [.bool (Dt s)] := by
 show G9 (std (Mg N) N) (xOf _) = _
 simp only [G9, std, xOf, PXb, PXc, PXn, Bo, R3]
 have e : iLe 1 (s.size : Int) = false ∨ iLe 1 (s.size : Int) = true := by cases iLe 1 (s.size : Int) <;> simp
 have e2 : iLt 16 (s.size : Int) = !iLe (s.size : Int) 16 := by unfold iLt iLe; rw [Bool.eq_iff_iff]; simp
 rw [e2]
 cases h : iLe 1 (s.size : Int) && iLe (s.size : Int) 16 with
 | false =>
  have : (!iLe 1 (s.size : Int) || !iLe (s.size : Int) 16) = true := by rw [← Bool.not_and, h]; rfl
  simp only [this, cond_true, Dt, h, Bool.and_false]
 | true =>
  have : (!iLe 1 (s.size : Int) || !iLe (s.size : Int) 16) = false := by rw [← Bool.not_and, h]; rfl
  simp only [this, cond_false, Dt, h, Bool.and_true]
  refine F1 (RA (len := s.size) (FZ s) [.bool false] ?_ ?_ N hN) ?_
  ·intro self
   simp only [PXb, PXc, PXn, Bo, Mk]
  ·intro i self hi
   simp only [PXb, PXc, Bo, Int.toNat_natCast, Hs (show i ≤ 1099511627776 by omega), Lc hi, Hj hi, FZ]
   cases (iLe 65 (Dz s i) && iLe (Dz s i) 90) <;> rfl
  ·cases Ch (FZ s) s.size 0 <;> rfl
end Go.Px
end
section
namespace Go.Px
set_option maxRecDepth 100000
theorem SW {i len : Nat} (h : i < len) (hl : len ≤ 1099511627776) : (!iLt 0 (i : Int) || iIn (IntKind.i64.wrap ((i : Int) - 1)) (len : Int)) = true := by
 rw [Qw (by omega) (by omega)]
 simp only [iLt, iIn, Bool.or_eq_true, Bool.not_eq_true', decide_eq_false_iff_not, decide_eq_true_eq]
 omega
def Sv (L : Rows) (ov : Int) (i : Nat) : Bool := (iLt (atI L i 0) 1 || iLt (atI L i 1) (atI L i 0) || iLt ov (atI L i 1)) || !btw (atI L i 2) 0 11
def Rn (L : Rows) (i : Nat) : Bool := iLt 0 (i : Int) && iLe (atI L i 0) (pvI (AY L (IntKind.i64.wrap ((i : Int) - 1)).toNat 1))
def PZ (L : Rows) (ov : Int) (i : Nat) : Option (List PV) := cond (Sv L ov i) (some [.int 2]) (cond (Rn L i) (some [.int 8]) none)
def TN : Option (List PV) → Int
 | none => 0
 | some r => pvI (AG r 0)
def Oo (L : Rows) (ov : Int) : Int := cond (iLt 8 (L.length : Int)) 9 (TN (Ml (PZ L ov) L.length 0))
theorem PS (o : Option (List PV)) : cond (pvI (AG (S9 o) 0) == ((0 : Nat) : Int)) (some [PV.int (pvI (AG (S9 o) 1))]) (some [PV.int 0]) = some [PV.int (TN o)] := by
 cases o <;> rfl
theorem PN (N : Nat) (x0 : ByteArray) (x1 x2 x3 x4 x5 x6 x7 x9 x10 x11 x12 : Int) (x8 : Bool) (L : Rows) (hN : 2097152 < N) :
   CR N [.str x0, .int x1, .int x2, .int x3, .int x4, .int x5, .int x6, .int x7, .bool x8, .int x9, .int x10, .int x11, .int x12, .rows L] = some [.int (Oo L x3)] := by
  show Db (std (EH N) N) (xOf _) = _
  have e : ∀ ls, EH N 47 [] ls = BG N ls := fun ls => rfl
  simp only [Db, std, xOf, e, EM, PXb, PXc, PXn, Bo, Oo]
  cases h8 : iLt 8 (L.length : Int) with
  | true => rfl
  | false =>
    have hl : L.length ≤ 8 := by simp [iLt] at h8; omega
    simp only [cond_false]
    refine F1 (IJ (len := L.length) (PZ L x3) ?_ ?_ L.length 0 N (by omega) (by omega)) ?_
    · intro self
      simp only [PXb, PXc, PXn, Bo, Mk]
    · intro i self hi
      simp only [PXb, PXc, PXn, Bo, Int.toNat_natCast, Hs (show i ≤ 1099511627776 by omega), Lc hi, Hj hi, EM, e, SW hi (by omega)]
      simp only [PZ, Sv, Rn, atI]
      cases (iLt (pvI (AY L i 0)) 1 || iLt (pvI (AY L i 1)) (pvI (AY L i 0)) || iLt x3 (pvI (AY L i 1)) || !btw (pvI (AY L i 2)) 0 11) <;>
      cases (iLt 0 (i : Int) && iLe (pvI (AY L i 0)) (pvI (AY L (IntKind.i64.wrap ((i : Int) - 1)).toNat 1))) <;> rfl
    · exact PS _
def B7 (x0 : ByteArray) (x1 x2 x3 x4 x5 x6 x7 x9 x10 x11 x12 : Int) (L : Rows) : Int :=
  cond (!Dt x0) 5 (cond (!CG x1 x2 x3 x4 x5 x6 x7 x9 x10 x11 x12) 2
    (cond ((!(x10 == 0) && x2 == 1) || ((!(x5 == 0) || iLt 0 (L.length : Int)) && x3 == 0)) 1
      (cond (!(x5 == 0) && iLt (IntKind.i64.wrap (x5 * x1)) x3) 13 (Oo L x3))))
theorem P8 (N : Nat) (x0 : ByteArray) (x1 x2 x3 x4 x5 x6 x7 x9 x10 x11 x12 : Int) (x8 : Bool) (L : Rows) (hN : 2097152 < N) (hs : x0.size ≤ 1048576) :
   AH N [.str x0, .int x1, .int x2, .int x3, .int x4, .int x5, .int x6, .int x7, .bool x8, .int x9, .int x10, .int x11, .int x12, .rows L] = some [.int (B7 x0 x1 x2 x3 x4 x5 x6 x7 x9 x10 x11 x12 L)] := by
  show D7 (std (B8 N) N) (xOf _) = _
  have e : ∀ ls, B8 N 31 [] ls = Du N ls := fun ls => rfl
  have e2 : ∀ ls, B8 N 32 [] ls = B6 N ls := fun ls => rfl
  have e3 : ∀ ls, B8 N 33 [] ls = CR N ls := fun ls => rfl
  simp only [D7, std, xOf, e, e2, e3, Q0 N x0 (by omega) hs, N0, PN N _ _ _ _ _ _ _ _ _ _ _ _ _ _ hN, PXb, PXc, Bo, B7]
  cases Dt x0 <;> cases CG x1 x2 x3 x4 x5 x6 x7 x9 x10 x11 x12 <;> try rfl
  simp only [PXb, PXc, Bo, Bool.not_true]
  cases (!(x10 == 0) && x2 == 1) <;> cases ((!(x5 == 0) || iLt 0 (L.length : Int)) && x3 == 0) <;> try rfl
  cases (!(x5 == 0) && iLt (IntKind.i64.wrap (x5 * x1)) x3) <;> rfl
theorem Ra (N : Nat) (x0 : ByteArray) (x1 x2 x3 x4 x5 x6 x7 x9 x10 x11 x12 : Int) (x8 : Bool) (L : Rows) (hN : 2097152 < N) (hs : x0.size ≤ 1048576) :
   C4 N [.str x0, .int x1, .int x2, .int x3, .int x4, .int x5, .int x6, .int x7, .bool x8, .int x9, .int x10, .int x11, .int x12, .rows L] = some [.int (B7 x0 x1 x2 x3 x4 x5 x6 x7 x9 x10 x11 x12 L)] := by
  show Fy (std (D3 N) N) (xOf _) = _
  have e : ∀ ls, D3 N 53 [] ls = Ee N ls := fun ls => rfl
  have e2 : ∀ ls, D3 N 54 [] ls = Hn N ls := fun ls => rfl
  simp only [Fy, std, xOf, e, e2, SG N x0 (by omega) hs, TS, PXb, PXc, PXn, Bo]
  simp only [← Bool.not_and, B7]
  rw [show (btw x1 2 11 && btw x2 1 2 && btw x3 0 90 && btw x4 4 8 && btw x5 0 90 && btw x6 1 5 && btw x7 1 5 && btw x9 0 200 && btw x10 0 1000 && btw x11 0 9 && btw x12 0 11) = CG x1 x2 x3 x4 x5 x6 x7 x9 x10 x11 x12 from rfl]
  rw [Bool.and_comm (x3 == 0)]
  cases Dt x0 <;> cases CG x1 x2 x3 x4 x5 x6 x7 x9 x10 x11 x12 <;> try rfl
  cases (!(x10 == 0) && x2 == 1) || ((!(x5 == 0) || iLt 0 (L.length : Int)) && x3 == 0) <;> try rfl
  cases (!(x5 == 0) && iLt (IntKind.i64.wrap (x5 * x1)) x3) <;> try rfl
  simp only [Bool.not_true, cond_false, Oo]
  cases h8 : iLt 8 (L.length : Int) with
  | true => rfl
  | false =>
    have hl : L.length ≤ 8 := by simp [iLt] at h8; omega
    simp only [cond_false]
    refine F1 (IJ (len := L.length) (PZ L x3) ?_ ?_ L.length 0 N (by omega) (by omega)) ?_
    · intro self
      simp only [PXb, PXc, PXn, Bo, Mk]
    · intro i self hi
      simp only [PXb, PXc, PXn, Bo, Int.toNat_natCast, Hs (show i ≤ 1099511627776 by omega), Lc hi, Hj hi, SW hi (by omega)]
      simp only [PZ, Sv, Rn, atI]
      cases (iLt (pvI (AY L i 0)) 1 || iLt (pvI (AY L i 1)) (pvI (AY L i 0)) || iLt x3 (pvI (AY L i 1)) || !btw (pvI (AY L i 2)) 0 11) <;>
      cases (iLt 0 (i : Int) && iLe (pvI (AY L i 0)) (pvI (AY L (IntKind.i64.wrap ((i : Int) - 1)).toNat 1))) <;> rfl
    · exact PS _
end Go.Px
end
section
namespace Go.Px
set_option maxRecDepth 100000
def VP (L : Rows) (k : Nat) (v : Int) : Bool := Ch (fun j => v == atI L j 0) k 0
def UW (L : Rows) (n : Int) (i : Nat) : Bool := !btw (atI L i 0) 1 n || VP L i (atI L i 0)
def Oh (L : Rows) (n : Int) : Bool := !Ch (UW L n) L.length 0
end Go.Px
end
section
namespace Go.Px
set_option maxRecDepth 100000
def pIs (L : Rows) (v : Int) (i : Nat) : Bool := atI L i 0 == v
def VN (s n : Int) (i : Nat) : Bool := s == (i : Int) + 1 || n == (i : Int) + 1
def VE (L : Rows) (s n : Int) (i : Nat) : Bool := iLt 3 (atI L i 0) || !(pIs L 1 i == VN s n i)
def Uz (L : Rows) : Int := Sp (pIs L 2) L.length
def ins (L : Rows) : Int := Sp (pIs L 1) L.length
def UL (L : Rows) (s n wk : Int) : Bool :=
 !Ch (VE L s n) L.length 0 && (!((TC L && iLt (ins L) 1) || (!(s == 0) && s == n)) && wk == Uz L)
end Go.Px
end
section
namespace Go.Px
set_option maxRecDepth 100000
def Q5 (v : Int) : Bool := !btw v 0 1000000000
def VM (x1 x3 x5 x6 x7 x8 x9 x10 x21 x23 x25 x26 : Int) : Rows := [[.int x1], [.int x3], [.int x5], [.int x6], [.int x7], [.int x8], [.int x9], [.int x10], [.int x21], [.int x23], [.int x25], [.int x26]]
def SJ (a3 x2 : Int) : Bool := cond (a3 == 0) (x2 == 0) (btw x2 1 a3)
def U2 (s : ByteArray) (a1 a2 a3 a4 a5 a6 a7 a9 a10 a11 a12 : Int) (La L14 L16 L17 L19 L24 : Rows) (x0 x1 x2 x3 x4 x5 x6 x7 x8 x9 x10 x11 x12 x13 x15 x21 x22 x23 x25 x26 x27 : Int) : Bool :=
  B7 s a1 a2 a3 a4 a5 a6 a7 a9 a10 a11 a12 La == 0 && (btw x0 1 2 && ((L14.length : Int) == a1 && ((L19.length : Int) == a1 && ((L24.length : Int) == a1 && (!iLt 5 x27 &&
    (btw x12 0 a1 && (btw x13 0 a1 && (UL L14 x12 x13 x4 && (btw x15 0 a1 && (btw x22 0 a1 && (Oh L16 a1 && (Oh L17 a1 && (SJ a3 x2 && (btw x11 0 (IntKind.i64.wrap (a4 - 1)) &&
      (!T8 Q5 (VM x1 x3 x5 x6 x7 x8 x9 x10 x21 x23 x25 x26) && !T8 Q5 L19)))))))))))))))
end Go.Px
end
section
namespace Go.Px
set_option maxRecDepth 100000
theorem UQ {c : Int} {n : Nat} (hc : 0 ≤ c) : iRg 0 (cond (iLt c (n : Int)) c (n : Int)) (n : Int) = true := by
 cases h : iLt c (n : Int) with
 | true => simp only [iLt, decide_eq_true_eq] at h; simp only [cond_true, iRg, decide_eq_true_eq]; omega
 | false => simp only [cond_false, iRg, decide_eq_true_eq]; omega
def cut (L : Rows) (c : Int) : Rows := (L.take (cond (iLt c (L.length : Int)) c (L.length : Int)).toNat).drop (0 : Int).toNat
def Ty (s : ByteArray) (c : Int) : ByteArray := s.extract (0 : Int).toNat (cond (iLt c (s.size : Int)) c (s.size : Int)).toNat
theorem Tp (s : ByteArray) (c : Int) : (Ty s c).size ≤ s.size := by
 unfold Ty
 rw [ByteArray.size_extract]
 omega
end Go.Px
end
section
namespace Go.Px
set_option maxRecDepth 100000
def CK (r : Rul) : Int := B7 r.name r.side r.innings r.overs r.balls r.quota r.wide r.noball r.newball r.followon r.reviews r.outside r.power
theorem GV {N : Nat} {r1 r2 r3 r4 r5 r6 r7 r9 r10 r11 r12 : Int} {r8 : Bool} {r0 : ByteArray} {r13 : Rows} (hN : 2097152 < N) (hs : r0.size ≤ 1048576) : AH N [.str r0, .int r1, .int r2, .int r3, .int r4, .int r5, .int r6, .int r7, .bool r8, .int r9, .int r10, .int r11, .int r12, .rows r13] = some [.int (CK (⟨r0, r1, r2, r3, r4, r5, r6, r7, r8, r9, r10, r11, r12, r13⟩ : Rul))] := by
 exact P8 N _ _ _ _ _ _ _ _ _ _ _ _ _ _ hN hs
theorem R7 {N : Nat} {r1 r2 r3 r4 r5 r6 r7 r9 r10 r11 r12 : Int} {r8 : Bool} {r0 : ByteArray} {r13 : Rows} (hN : 2097152 < N) (hs : r0.size ≤ 1048576) : C4 N [.str r0, .int r1, .int r2, .int r3, .int r4, .int r5, .int r6, .int r7, .bool r8, .int r9, .int r10, .int r11, .int r12, .rows r13] = some [.int (CK (⟨r0, r1, r2, r3, r4, r5, r6, r7, r8, r9, r10, r11, r12, r13⟩ : Rul))] := by
 exact Ra N _ _ _ _ _ _ _ _ _ _ _ _ _ _ hN hs
end Go.Px
end
section
namespace Go.Px
set_option maxRecDepth 100000
structure Cre where
 batter : Int
 wides : Int
 noballs : Int
 byes : Int
 legbyes : Int
 bowler : Int
 counts : Bool
 faced : Bool
 wicket : Bool
 swap : Bool
def Cre.ls (c : Cre) : List PV := [.int c.batter, .int c.wides, .int c.noballs, .int c.byes, .int c.legbyes, .int c.bowler, .bool c.counts, .bool c.faced, .bool c.wicket, .bool c.swap]
end Go.Px
end
section
namespace Go.Px
set_option maxRecDepth 100000
def uB (k : Int) : Bool := k == 4
theorem c4 {c x x' y y' : Bool} {a b d z z' : Int} (h1 : x = x') (h2 : y = y') (h3 : z = z') : (some [PV.int (cond c a (cond x b (cond y d z)))] : Option (List PV)) = some [PV.int (cond c a (cond x' b (cond y' d z')))] := by subst h1; subst h2; subst h3; rfl
end Go.Px
end
