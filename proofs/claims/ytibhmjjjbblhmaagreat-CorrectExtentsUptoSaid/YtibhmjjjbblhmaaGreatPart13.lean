/- Part 13. -/
import Derived.Test.YtibhmjjjbblhmaaGreatPart12
set_option linter.unusedVariables false
set_option linter.unusedSimpArgs false
section
namespace Go.Px
set_option maxRecDepth 100000
def Cw (xs : List Inn) : Prop := ∀ i, i < xs.length → (inn xs i).Fit
theorem aC {N : Nat} {r1 r2 r3 r4 r5 r6 r7 r9 r10 r11 r12 : Int} {r8 : Bool} {r0 : ByteArray} {r13 : Rows} (hl : r13.length ≤ 1048576) : DM N [.str r0, .int r1, .int r2, .int r3, .int r4, .int r5, .int r6, .int r7, .bool r8, .int r9, .int r10, .int r11, .int r12, .rows r13] = some [.str r0, .int r1, .int r2, .int r3, .int r4, .int r5, .int r6, .int r7, .bool r8, .int r9, .int r10, .int r11, .int r12, .rows r13] := by
 show MU (std (PE N) N) (xOf _) = _
 simp only [MU, My, std, xOf, PXb, PXc, PXn, PXm, Nat.reduceAdd, Int.reduceBEq, DA, BO hl (show 24 ≤ 4096 by omega)]
theorem fO {N : Nat} {r1 r2 r3 r4 r5 r6 r7 r9 r10 r11 r12 : Int} {r8 : Bool} {r0 : ByteArray} {r13 : Rows} (hl : r13.length ≤ 1048576) : Er N [.str r0, .int r1, .int r2, .int r3, .int r4, .int r5, .int r6, .int r7, .bool r8, .int r9, .int r10, .int r11, .int r12, .rows r13] = some [.str r0, .int r1, .int r2, .int r3, .int r4, .int r5, .int r6, .int r7, .bool r8, .int r9, .int r10, .int r11, .int r12, .rows r13] := by
 show Q9 (std (aG N) N) (xOf _) = _
 simp only [Q9, std, xOf, PXb, PXc, PXn, PXm, Nat.reduceAdd, Int.reduceBEq, KO hl (show 24 ≤ 4096 by omega)]
theorem Z9 {xs : List Inn} {i : Nat} (h : i < xs.length) : xs.take i ++ [inn xs i] = xs.take (i + 1) := by
 rw [List.take_add_one, Ui, List.getElem?_eq_getElem h]
 rfl
theorem aO {N : Nat} {m1 m2 m3 m4 m5 m6 m7 m9 m10 m11 m12 m14 m15 m18 m19 m20 m21 m22 : Int} {m8 m16 : Bool} {m0 : ByteArray} {m13 : Rows} {m17 : List Inn} (hf : Cw m17) (hN : 2097152 < N) (hl : m17.length ≤ 1000000) (h13 : m13.length ≤ 1048576) : DN N [.str m0, .int m1, .int m2, .int m3, .int m4, .int m5, .int m6, .int m7, .bool m8, .int m9, .int m10, .int m11, .int m12, .rows m13, .int m14, .int m15, .bool m16, .rows (AQ m17), .int m18, .int m19, .int m20, .int m21, .int m22] = some [.str m0, .int m1, .int m2, .int m3, .int m4, .int m5, .int m6, .int m7, .bool m8, .int m9, .int m10, .int m11, .int m12, .rows m13, .int m14, .int m15, .bool m16, .rows (AQ m17), .int m18, .int m19, .int m20, .int m21, .int m22] := by
 show MZ (std (JR N) N) (xOf _) = _
 simp only [MZ, TL, Hx, std, xOf, PXb, aC h13, PXi]
 refine AK (Dg (len := m17.length) (fun i => [.rows (AQ (m17.take i)), .int (i : Int)]) [.rows (AQ m17)] ?_ ?_ N (by omega)) rfl
 ·intro self
  simp only [PXb, PXc, PXn, AA, Aj, List.take_length]
 ·intro i self hi
  have h2 : (m17.take (i + 1)).length ≤ 1048576 := by rw [List.length_take]; omega
  have h3 : iSm ((m17.take (i + 1)).length : Int) 304 = true := Gx (by omega) (by omega)
  simp only [PXb, PXc, AA, AN (show i ≤ 1099511627776 by omega), Ae hi, AP hi, PXi, Hx, CA (hf i hi), PXr, Inn.eta, h3, Z9 hi, Nat.reduceAdd]
  rfl
theorem gW {N : Nat} {m1 m2 m3 m4 m5 m6 m7 m9 m10 m11 m12 m14 m15 m18 m19 m20 m21 m22 : Int} {m8 m16 : Bool} {m0 : ByteArray} {m13 : Rows} {m17 : List Inn} (hf : Cw m17) (hN : 2097152 < N) (hl : m17.length ≤ 1000000) (h13 : m13.length ≤ 1048576) : Qy N [.str m0, .int m1, .int m2, .int m3, .int m4, .int m5, .int m6, .int m7, .bool m8, .int m9, .int m10, .int m11, .int m12, .rows m13, .int m14, .int m15, .bool m16, .rows (AQ m17), .int m18, .int m19, .int m20, .int m21, .int m22] = some [.str m0, .int m1, .int m2, .int m3, .int m4, .int m5, .int m6, .int m7, .bool m8, .int m9, .int m10, .int m11, .int m12, .rows m13, .int m14, .int m15, .bool m16, .rows (AQ m17), .int m18, .int m19, .int m20, .int m21, .int m22] := by
 show RA (std (MF N) N) (xOf _) = _
 simp only [RA, Ye, NE, std, xOf, PXb, fO h13, PXi]
 refine AK (Dg (len := m17.length) (fun i => [.rows (AQ (m17.take i)), .int (i : Int)]) [.rows (AQ m17)] ?_ ?_ N (by omega)) rfl
 ·intro self
  simp only [PXb, PXc, PXn, AA, Aj, List.take_length]
 ·intro i self hi
  have h2 : (m17.take (i + 1)).length ≤ 1048576 := by rw [List.length_take]; omega
  have h3 : iSm ((m17.take (i + 1)).length : Int) 304 = true := Gx (by omega) (by omega)
  simp only [PXb, PXc, AA, AN (show i ≤ 1099511627776 by omega), Ae hi, AP hi, PXi, NE, XV (hf i hi), PXr, Inn.eta, h3, Z9 hi, Nat.reduceAdd]
  rfl
def ye : Rul := ⟨⟨#[]⟩, 0, 0, 0, 0, 0, 0, 0, false, 0, 0, 0, 0, []⟩
def WD : Mat := ⟨ye, 0, 0, false, [], 0, 0, 0, 0, 0⟩
def Bf (r : Rul) : Mat × Int := cond (!(Ax r == 0)) (WD, Ax r) (⟨r, 1, 0, false, [], 0, 0, 0, 0, 0⟩, 0)
theorem gC {N : Nat} {r1 r2 r3 r4 r5 r6 r7 r9 r10 r11 r12 : Int} {r8 : Bool} {r0 : ByteArray} {r13 : Rows} (hN : 2097152 < N) (hs : r0.size ≤ 1048576) (h13 : r13.length ≤ 1048576) : Ge N [.str r0, .int r1, .int r2, .int r3, .int r4, .int r5, .int r6, .int r7, .bool r8, .int r9, .int r10, .int r11, .int r12, .rows r13] = some (Em (Bf (⟨r0, r1, r2, r3, r4, r5, r6, r7, r8, r9, r10, r11, r12, r13⟩ : Rul))) := by
 show Qz (std (ML N) N) (xOf _) = _
 generalize hres : (some (Em (Bf (⟨r0, r1, r2, r3, r4, r5, r6, r7, r8, r9, r10, r11, r12, r13⟩ : Rul))) : Option (List PV)) = RR
 simp only [Qz, VO, VT, std, xOf, PXb, PXc, PXn, PXm, Nat.reduceAdd, Int.reduceBEq, DI hN hs, aC h13]
 subst hres; simp only [Bf]
 cases Ax (⟨r0, r1, r2, r3, r4, r5, r6, r7, r8, r9, r10, r11, r12, r13⟩ : Rul) == 0 <;> rfl
theorem vC {N : Nat} {r1 r2 r3 r4 r5 r6 r7 r9 r10 r11 r12 : Int} {r8 : Bool} {r0 : ByteArray} {r13 : Rows} (hN : 2097152 < N) (hs : r0.size ≤ 1048576) (h13 : r13.length ≤ 1048576) : WK N [.str r0, .int r1, .int r2, .int r3, .int r4, .int r5, .int r6, .int r7, .bool r8, .int r9, .int r10, .int r11, .int r12, .rows r13] = some (Em (Bf (⟨r0, r1, r2, r3, r4, r5, r6, r7, r8, r9, r10, r11, r12, r13⟩ : Rul))) := by
 show Vx (std (Qh N) N) (xOf _) = _
 generalize hres : (some (Em (Bf (⟨r0, r1, r2, r3, r4, r5, r6, r7, r8, r9, r10, r11, r12, r13⟩ : Rul))) : Option (List PV)) = RR
 simp only [Vx, bR, bF, std, xOf, PXb, PXc, PXn, PXm, Nat.reduceAdd, Int.reduceBEq, Dl hN hs, fO h13]
 subst hres; simp only [Bf]
 cases Ax (⟨r0, r1, r2, r3, r4, r5, r6, r7, r8, r9, r10, r11, r12, r13⟩ : Rul) == 0 <;> rfl
def dc (m : Mat) : Bool := (iLt m.pen1 0 || iLt 1000000 m.pen1) || (iLt m.pen2 0 || iLt 1000000 m.pen2)
def Jx (m : Mat) (i : Nat) : Bool := !Hn m.rules (inn m.inns i) || !((inn m.inns i).side == Dq m (i : Int))
def oP (m : Mat) : Bool :=
  let n : Int := m.inns.length
  let most := IntKind.i64.wrap (2 * m.rules.innings)
  Ax m.rules == 0 && (!(iLt m.stage 1) && (!(iLt 5 m.stage) && (!dc m && (!(iLt m.first 0 || iLt 2 m.first || iLt most n) && (!(m.first == 0 && (iLt 0 n || (!(m.stage == 1) && !(m.stage == 5)))) &&
    (!(m.stage == 1 && !(m.first == 0)) && (!(m.stage == 2 && n == most) && (!(m.stage == 4 && (!(m.rules.innings == 2) || !(n == 2))) && !(m.follow && (!(m.rules.innings == 2) || iLt n 2))))))))))
def Cm (m : Mat) : Bool := oP m && (!Ah (Jx m) m.inns.length 0 && Ya m)
set_option maxHeartbeats 4000000 in
theorem aw {N : Nat} {m1 m2 m3 m4 m5 m6 m7 m9 m10 m11 m12 m14 m15 m18 m19 m20 m21 m22 : Int} {m8 m16 : Bool} {m0 : ByteArray} {m13 : Rows} {m17 : List Inn} (hf : Cw m17) (hN : 2097152 < N) (hl : m17.length ≤ 1000000) (hs : m0.size ≤ 1048576) : DK N [.str m0, .int m1, .int m2, .int m3, .int m4, .int m5, .int m6, .int m7, .bool m8, .int m9, .int m10, .int m11, .int m12, .rows m13, .int m14, .int m15, .bool m16, .rows (AQ m17), .int m18, .int m19, .int m20, .int m21, .int m22] = some [.bool (Cm (⟨⟨m0, m1, m2, m3, m4, m5, m6, m7, m8, m9, m10, m11, m12, m13⟩, m14, m15, m16, m17, m18, m19, m20, m21, m22⟩ : Mat))] := by
 show MG (std (EB N) N) (xOf _) = _
 generalize hres : (some [.bool (Cm (⟨⟨m0, m1, m2, m3, m4, m5, m6, m7, m8, m9, m10, m11, m12, m13⟩, m14, m15, m16, m17, m18, m19, m20, m21, m22⟩ : Mat))] : Option (List PV)) = RR
 simp only [MG, Ti, Hs, Ja, JY, std, xOf, PXb, DI hN hs, PXi]
 subst hres; simp only [Cm, oP]
 cases hc : Ax (⟨⟨m0, m1, m2, m3, m4, m5, m6, m7, m8, m9, m10, m11, m12, m13⟩, m14, m15, m16, m17, m18, m19, m20, m21, m22⟩ : Mat).rules == 0 <;> (try rfl)
 cases h1 : iLt m14 1 <;> (try rfl)
 cases h5 : iLt 5 m14 <;> (try rfl)
 simp only [PXb]
 refine AK (A7 (len := 2) (fun i => iLt (cond ((i : Int) == 1) m19 m18) 0 || iLt 1000000 (cond ((i : Int) == 1) m19 m18)) [.bool false] ?_ ?_ N (by omega)) ?_
 ·intro self
  rfl
 ·intro i self hi
  simp only [PXb, AN (show i ≤ 1099511627776 by omega), show iLt (i : Int) 2 = true from Ae (len := 2) hi, show iIn (i : Int) 2 = true from AP (len := 2) hi]
 ·have hp : Ah (fun i => iLt (cond ((i : Int) == 1) m19 m18) 0 || iLt 1000000 (cond ((i : Int) == 1) m19 m18)) 2 0 = dc (⟨⟨m0, m1, m2, m3, m4, m5, m6, m7, m8, m9, m10, m11, m12, m13⟩, m14, m15, m16, m17, m18, m19, m20, m21, m22⟩ : Mat) := by
   simp only [BK, Hw, Bool.or_false]
   rfl
  rw [hp]
  cases dc (⟨⟨m0, m1, m2, m3, m4, m5, m6, m7, m8, m9, m10, m11, m12, m13⟩, m14, m15, m16, m17, m18, m19, m20, m21, m22⟩ : Mat)
  case true => rfl
  simp only [PXb, CS, Int.reduceBEq]
  cases iLt m15 0 <;> try rfl
  cases iLt 2 m15 <;> try rfl
  cases iLt (IntKind.i64.wrap (2 * m2)) (m17.length : Int) <;> try rfl
  cases (m15 == 0 && (iLt 0 (m17.length : Int) || (!(m14 == 1) && !(m14 == 5)))) <;> try rfl
  cases (m14 == 1 && !(m15 == 0)) <;> try rfl
  cases (m14 == 2 && (m17.length : Int) == IntKind.i64.wrap (2 * m2)) <;> try rfl
  cases (m14 == 4 && (!(m2 == 2) || !((m17.length : Int) == 2))) <;> try rfl
  cases (m16 && (!(m2 == 2) || iLt (m17.length : Int) 2)) <;> try rfl
  simp only [PXb]
  refine AK (A7 (len := m17.length) (Jx (⟨⟨m0, m1, m2, m3, m4, m5, m6, m7, m8, m9, m10, m11, m12, m13⟩, m14, m15, m16, m17, m18, m19, m20, m21, m22⟩ : Mat)) [.bool false] ?_ ?_ N (by omega)) ?_
  ·intro self
   simp only [PXb, PXc, PXn, AA, Aj]
  ·intro i self hi
   simp only [PXb, PXc, PXn, PXm, Nat.reduceAdd, Int.reduceBEq, AN (show i ≤ 1099511627776 by omega), Ae hi, AP hi, PXi, Hs, Ja, V7 (hf i hi) hN hs, R4, Jx]
   cases Hn (⟨⟨m0, m1, m2, m3, m4, m5, m6, m7, m8, m9, m10, m11, m12, m13⟩, m14, m15, m16, m17, m18, m19, m20, m21, m22⟩ : Mat).rules (inn m17 i) <;> first | rfl | simp only [PXb, PXc, PXn, PXm, Nat.reduceAdd, Int.reduceBEq]
  ·cases Ah (Jx (⟨⟨m0, m1, m2, m3, m4, m5, m6, m7, m8, m9, m10, m11, m12, m13⟩, m14, m15, m16, m17, m18, m19, m20, m21, m22⟩ : Mat)) m17.length 0
   case true => rfl
   simp only [PXb, PXc, PXn, PXm, Nat.reduceAdd, Int.reduceBEq, JY, nO hN (show m17.length ≤ 1048576 by omega)]
theorem sR (f g : Nat → Bool) : ∀ k i, Ah (fun j => f j || g j) k i = (Ah f k i || Ah g k i)
 | 0, i => rfl
 | k + 1, i => by
  rw [BK, BK, BK, sR f g k (i + 1)]
  cases f i <;> cases g i <;> cases Ah f k (i + 1) <;> cases Ah g k (i + 1) <;> rfl
theorem ku {N : Nat} {m1 m2 m3 m4 m5 m6 m7 m9 m10 m11 m12 m14 m15 m18 m19 m20 m21 m22 : Int} {m8 m16 : Bool} {m0 : ByteArray} {m13 : Rows} {m17 : List Inn} (hf : Cw m17) (hN : 2097152 < N) (hl : m17.length ≤ 4) (hs : m0.size ≤ 1048576) : GP N [.str m0, .int m1, .int m2, .int m3, .int m4, .int m5, .int m6, .int m7, .bool m8, .int m9, .int m10, .int m11, .int m12, .rows m13, .int m14, .int m15, .bool m16, .rows (AQ m17), .int m18, .int m19, .int m20, .int m21, .int m22] = some [.bool (!Ah (Jx (⟨⟨m0, m1, m2, m3, m4, m5, m6, m7, m8, m9, m10, m11, m12, m13⟩, m14, m15, m16, m17, m18, m19, m20, m21, m22⟩ : Mat)) m17.length 0 && !Ah (Lg m14 m17) m17.length 0)] := by
 show JS (std (Gq N) N) (xOf _) = _
 generalize hres : (some [.bool (!Ah (Jx (⟨⟨m0, m1, m2, m3, m4, m5, m6, m7, m8, m9, m10, m11, m12, m13⟩, m14, m15, m16, m17, m18, m19, m20, m21, m22⟩ : Mat)) m17.length 0 && !Ah (Lg m14 m17) m17.length 0)] : Option (List PV)) = RR
 simp only [JS, Je, Iy, std, xOf, PXb, PXi]
 subst hres
 rw [← Bool.not_or, ← sR]
 refine AK (A7 (len := m17.length) (fun j => Jx (⟨⟨m0, m1, m2, m3, m4, m5, m6, m7, m8, m9, m10, m11, m12, m13⟩, m14, m15, m16, m17, m18, m19, m20, m21, m22⟩ : Mat) j || Lg m14 m17 j) [.bool false] ?_ ?_ N (by omega)) ?_
 ·intro self
  simp only [PXb, PXc, PXn, AA, Aj]
 ·intro i self hi
  have hi3 : 0 ≤ (i : Int) ∧ (i : Int) ≤ 3 := by omega
  simp only [PXb, PXc, PXn, PXm, Nat.reduceAdd, Int.reduceBEq, AN (show i ≤ 1099511627776 by omega), Ae hi, AP hi, PXi, Je, Iy, fN (hf i hi) hN hs, eD hi3, Jx, Lg]
  cases Hn (⟨⟨m0, m1, m2, m3, m4, m5, m6, m7, m8, m9, m10, m11, m12, m13⟩, m14, m15, m16, m17, m18, m19, m20, m21, m22⟩ : Mat).rules (inn m17 i) <;> rfl
 ·cases Ah (fun j => Jx (⟨⟨m0, m1, m2, m3, m4, m5, m6, m7, m8, m9, m10, m11, m12, m13⟩, m14, m15, m16, m17, m18, m19, m20, m21, m22⟩ : Mat) j || Lg m14 m17 j) m17.length 0 <;> rfl
set_option maxHeartbeats 4000000 in
theorem XT {N : Nat} {m1 m2 m3 m4 m5 m6 m7 m9 m10 m11 m12 m14 m15 m18 m19 m20 m21 m22 : Int} {m8 m16 : Bool} {m0 : ByteArray} {m13 : Rows} {m17 : List Inn} (hf : Cw m17) (hN : 2097152 < N) (hl : m17.length ≤ 1000000) (hs : m0.size ≤ 1048576) : Eu N [.str m0, .int m1, .int m2, .int m3, .int m4, .int m5, .int m6, .int m7, .bool m8, .int m9, .int m10, .int m11, .int m12, .rows m13, .int m14, .int m15, .bool m16, .rows (AQ m17), .int m18, .int m19, .int m20, .int m21, .int m22] = some [.bool (Cm (⟨⟨m0, m1, m2, m3, m4, m5, m6, m7, m8, m9, m10, m11, m12, m13⟩, m14, m15, m16, m17, m18, m19, m20, m21, m22⟩ : Mat))] := by
 show Qg (std (MA N) N) (xOf _) = _
 generalize hres : (some [.bool (Cm (⟨⟨m0, m1, m2, m3, m4, m5, m6, m7, m8, m9, m10, m11, m12, m13⟩, m14, m15, m16, m17, m18, m19, m20, m21, m22⟩ : Mat))] : Option (List PV)) = RR
 simp only [Qg, Xw, JP, std, xOf, PXb, Dl hN hs, PXi]
 subst hres; simp only [Cm, oP]
 cases hc : Ax (⟨⟨m0, m1, m2, m3, m4, m5, m6, m7, m8, m9, m10, m11, m12, m13⟩, m14, m15, m16, m17, m18, m19, m20, m21, m22⟩ : Mat).rules == 0
 case false => simp only [PXb, PXc, PXn, PXm, Nat.reduceAdd, Int.reduceBEq]
 have rk := (Kr (beq_iff_eq.1 hc)).innings
 simp only at rk
 have e2 : IntKind.i64.wrap (2 * m2) = 2 * m2 := EZ (by omega) (by omega)
 have e4 : (2 * m2 == 4) = (m2 == 2) := by rw [Bool.eq_iff_iff, beq_iff_eq, beq_iff_eq]; omega
 simp only [e2, e4]
 cases h1 : iLt m14 1
 case true => simp only [PXb, PXc, PXn, PXm, Nat.reduceAdd, Int.reduceBEq]
 cases h5 : iLt 5 m14
 case true => simp only [PXb, PXc, PXn, PXm, Nat.reduceAdd, Int.reduceBEq]
 cases hm : iLt (2 * m2) (m17.length : Int)
 case true => simp only [PXb, PXc, PXn, PXm, Nat.reduceAdd, Int.reduceBEq]
 have h4 : m17.length ≤ 4 := by
  simp only [iLt, decide_eq_false_iff_not] at hm
  omega
 simp only [PXb]
 refine AK (A7 (len := 2) (fun i => iLt (cond ((i : Int) == 1) m19 m18) 0 || iLt 1000000 (cond ((i : Int) == 1) m19 m18)) [.bool false] ?_ ?_ N (by omega)) ?_
 ·intro self
  rfl
 ·intro i self hi
  simp only [PXb, AN (show i ≤ 1099511627776 by omega), show iLt (i : Int) 2 = true from Ae (len := 2) hi, show iIn (i : Int) 2 = true from AP (len := 2) hi]
 ·have hp : Ah (fun i => iLt (cond ((i : Int) == 1) m19 m18) 0 || iLt 1000000 (cond ((i : Int) == 1) m19 m18)) 2 0 = dc (⟨⟨m0, m1, m2, m3, m4, m5, m6, m7, m8, m9, m10, m11, m12, m13⟩, m14, m15, m16, m17, m18, m19, m20, m21, m22⟩ : Mat) := by
   simp only [BK, Hw, Bool.or_false]
   rfl
  rw [hp]
  cases dc (⟨⟨m0, m1, m2, m3, m4, m5, m6, m7, m8, m9, m10, m11, m12, m13⟩, m14, m15, m16, m17, m18, m19, m20, m21, m22⟩ : Mat)
  case true => rfl
  simp only [PXb, CS, Int.reduceBEq, JP, ku hf hN h4 hs, Ya, lT (show (0 : Int) ≤ (m17.length : Int) by omega)]
  generalize Ah (Jx (⟨⟨m0, m1, m2, m3, m4, m5, m6, m7, m8, m9, m10, m11, m12, m13⟩, m14, m15, m16, m17, m18, m19, m20, m21, m22⟩ : Mat)) m17.length 0 = q1
  generalize Ah (Lg m14 m17) m17.length 0 = q2
  generalize (m15 == 0 && (!((m17.length : Int) == 0) || (!(m14 == 1) && !(m14 == 5)))) = q3
  generalize (m14 == 1 && !(m15 == 0)) = q4
  generalize (m14 == 2 && (m17.length : Int) == 2 * m2) = q5
  cases iLt m15 0 <;> cases iLt 2 m15 <;> cases q3 <;> cases q4 <;> cases q5 <;> try (simp only [PXb, PXc, PXn, PXm, Nat.reduceAdd, Int.reduceBEq]; done)
  cases m14 == 3 <;> cases (m17.length : Int) == 0 <;> cases m14 == 4 <;> cases m2 == 2 <;> cases (m17.length : Int) == 2 <;> cases m16 <;> cases iLt (m17.length : Int) 2 <;> cases q1 <;> cases q2 <;> rfl
end Go.Px
end
section
namespace Go.Px
set_option maxRecDepth 100000
def lnx (xs : List Inn) : Nat := (IntKind.i64.wrap ((xs.length : Int) - 1)).toNat
def BZ (m : Mat) : Inn := inn m.inns (lnx m.inns)
theorem NQ {n : Nat} (h : ((n : Int) == 0) = false) (hl : n ≤ 1000000) : iIn (IntKind.i64.wrap ((n : Int) - 1)) (n : Int) = true := by
 rw [beq_eq_false_iff_ne] at h
 rw [EZ (by omega) (by omega)]
 simp only [iIn, decide_eq_true_eq]; omega
theorem jJ {xs : List Inn} (h : ((xs.length : Int) == 0) = false) (hl : xs.length ≤ 1000000) : lnx xs < xs.length := by
 rw [beq_eq_false_iff_ne] at h
 unfold lnx
 rw [EZ (by omega) (by omega)]
 omega
def YX (r : Rul) : Int := cond (r.overs == 0) 5 6
theorem J6 {N : Nat} {r1 r2 r3 r4 r5 r6 r7 r9 r10 r11 r12 : Int} {r8 : Bool} {r0 : ByteArray} {r13 : Rows}  : Bh N [.str r0, .int r1, .int r2, .int r3, .int r4, .int r5, .int r6, .int r7, .bool r8, .int r9, .int r10, .int r11, .int r12, .rows r13] = some [.int (YX (⟨r0, r1, r2, r3, r4, r5, r6, r7, r8, r9, r10, r11, r12, r13⟩ : Rul))] := by
 show GG (std (OW N) N) (xOf _) = _
 simp only [GG, std, xOf, PXb, PXc, PXn, PXm, Nat.reduceAdd, Int.reduceBEq, YX]
theorem Sv {N : Nat} {m1 m2 m3 m4 m5 m6 m7 m9 m10 m11 m12 m14 m15 m18 m19 m20 m21 m22 : Int} {m8 m16 : Bool} {m0 : ByteArray} {m13 : Rows} {m17 : List Inn} (h : ((m17.length : Int) == 0) = false) (hl : m17.length ≤ 1000000) : DD N [.str m0, .int m1, .int m2, .int m3, .int m4, .int m5, .int m6, .int m7, .bool m8, .int m9, .int m10, .int m11, .int m12, .rows m13, .int m14, .int m15, .bool m16, .rows (AQ m17), .int m18, .int m19, .int m20, .int m21, .int m22] = some (inn m17 (lnx m17)).ls := by
 show PN (std (Js N) N) (xOf _) = _
 simp only [PN, std, xOf, PXb, PXc, PXn, PXm, Nat.reduceAdd, Int.reduceBEq, PXi, NQ h hl, lnx]
def Qv (x : Int × Int × Int) : List PV := [.int x.1, .int x.2.1, .int x.2.2]
def Mt (m : Mat) : Int × Int × Int :=
  let n : Int := m.inns.length
  let most := IntKind.i64.wrap (2 * m.rules.innings)
  let x := BZ m
  cond (!Cm m || n == 0) (0, 0, 0) (cond (x.ending == 5) (YX m.rules, 0, 0) (cond (x.ending == 0) (0, 0, 0)
    (cond (n == most && iLe x.target x.runs) (2, x.side, IntKind.i64.wrap (IntKind.i64.wrap (m.rules.side - 1) - x.wickets)) (cond (n == most && x.runs == IntKind.i64.wrap (x.target - 1)) (4, 0, 0)
      (cond (n == most) (1, Bi x.side, IntKind.i64.wrap (IntKind.i64.wrap (x.target - 1) - x.runs))
        (cond (n == 3 && iLt (A9 m x.side) (A9 m (Bi x.side))) (3, Bi x.side, IntKind.i64.wrap (A9 m (Bi x.side) - A9 m x.side)) (0, 0, 0)))))))
set_option maxHeartbeats 4000000 in
theorem kN {N : Nat} {m1 m2 m3 m4 m5 m6 m7 m9 m10 m11 m12 m14 m15 m18 m19 m20 m21 m22 : Int} {m8 m16 : Bool} {m0 : ByteArray} {m13 : Rows} {m17 : List Inn} (hf : Cw m17) (hN : 2097152 < N) (hl : m17.length ≤ 1000000) (hs : m0.size ≤ 1048576) : Fy N [.str m0, .int m1, .int m2, .int m3, .int m4, .int m5, .int m6, .int m7, .bool m8, .int m9, .int m10, .int m11, .int m12, .rows m13, .int m14, .int m15, .bool m16, .rows (AQ m17), .int m18, .int m19, .int m20, .int m21, .int m22] = some (Qv (Mt (⟨⟨m0, m1, m2, m3, m4, m5, m6, m7, m8, m9, m10, m11, m12, m13⟩, m14, m15, m16, m17, m18, m19, m20, m21, m22⟩ : Mat))) := by
 show JU (std (DG N) N) (xOf _) = _
 generalize hres : (some (Qv (Mt (⟨⟨m0, m1, m2, m3, m4, m5, m6, m7, m8, m9, m10, m11, m12, m13⟩, m14, m15, m16, m17, m18, m19, m20, m21, m22⟩ : Mat))) : Option (List PV)) = RR
 simp only [JU, RP, RO, Rp, Mz, std, xOf, PXb, PXi, aw hf hN hl hs, Ia, J6, SH hN (show m17.length ≤ 1048576 by omega)]
 subst hres; simp only [Mt, BZ, lnx]
 cases hv : Cm (⟨⟨m0, m1, m2, m3, m4, m5, m6, m7, m8, m9, m10, m11, m12, m13⟩, m14, m15, m16, m17, m18, m19, m20, m21, m22⟩ : Mat)
 case false => rfl
 cases h0 : (m17.length : Int) == 0
 case true => rfl
 simp only [PXb, NQ h0 hl]
 generalize inn m17 (IntKind.i64.wrap ((m17.length : Int) - 1)).toNat = x
 cases x.ending == 5
 case true => rfl
 cases x.ending == 0
 case true => rfl
 cases (m17.length : Int) == IntKind.i64.wrap (2 * m2) <;> cases iLe x.target x.runs <;> cases x.runs == IntKind.i64.wrap (x.target - 1) <;> try rfl
 all_goals (cases (m17.length : Int) == 3 <;> try rfl)
 all_goals (simp only [PXb]; cases iLt (A9 (⟨⟨m0, m1, m2, m3, m4, m5, m6, m7, m8, m9, m10, m11, m12, m13⟩, m14, m15, m16, m17, m18, m19, m20, m21, m22⟩ : Mat) x.side) (A9 (⟨⟨m0, m1, m2, m3, m4, m5, m6, m7, m8, m9, m10, m11, m12, m13⟩, m14, m15, m16, m17, m18, m19, m20, m21, m22⟩ : Mat) (Bi x.side)) <;> rfl)
set_option maxHeartbeats 4000000 in
theorem nH {N : Nat} {m1 m2 m3 m4 m5 m6 m7 m9 m10 m11 m12 m14 m15 m18 m19 m20 m21 m22 : Int} {m8 m16 : Bool} {m0 : ByteArray} {m13 : Rows} {m17 : List Inn} (hf : Cw m17) (hN : 2097152 < N) (hl : m17.length ≤ 1000000) (hs : m0.size ≤ 1048576) : Ii N [.str m0, .int m1, .int m2, .int m3, .int m4, .int m5, .int m6, .int m7, .bool m8, .int m9, .int m10, .int m11, .int m12, .rows m13, .int m14, .int m15, .bool m16, .rows (AQ m17), .int m18, .int m19, .int m20, .int m21, .int m22] = some (Qv (Mt (⟨⟨m0, m1, m2, m3, m4, m5, m6, m7, m8, m9, m10, m11, m12, m13⟩, m14, m15, m16, m17, m18, m19, m20, m21, m22⟩ : Mat))) := by
 show Im (std (B7 N) N) (xOf _) = _
 generalize hres : (some (Qv (Mt (⟨⟨m0, m1, m2, m3, m4, m5, m6, m7, m8, m9, m10, m11, m12, m13⟩, m14, m15, m16, m17, m18, m19, m20, m21, m22⟩ : Mat))) : Option (List PV)) = RR
 simp only [Im, VX, LY, LD, LE, std, xOf, PXb, PXi, XT hf hN hl hs, Gd, Lc hN (show m17.length ≤ 1048576 by omega)]
 subst hres; simp only [Mt, BZ]
 cases hv : Cm (⟨⟨m0, m1, m2, m3, m4, m5, m6, m7, m8, m9, m10, m11, m12, m13⟩, m14, m15, m16, m17, m18, m19, m20, m21, m22⟩ : Mat)
 case false => rfl
 cases h0 : (m17.length : Int) == 0
 case true => rfl
 simp only [PXb, PXm, LY, Sv h0 hl, LD, LE, Gd, Lc hN (show m17.length ≤ 1048576 by omega)]
 generalize inn m17 (lnx m17) = x
 unfold YX
 cases x.ending == 5 <;> cases m3 == 0 <;> try rfl
 all_goals (cases x.ending == 0 <;> try rfl)
 all_goals (cases (m17.length : Int) == IntKind.i64.wrap (2 * m2) <;> cases iLe x.target x.runs <;> cases x.runs == IntKind.i64.wrap (x.target - 1) <;> try rfl)
 all_goals (cases (m17.length : Int) == 3 <;> try rfl)
 all_goals (simp only [PXb]; cases iLt (A9 (⟨⟨m0, m1, m2, m3, m4, m5, m6, m7, m8, m9, m10, m11, m12, m13⟩, m14, m15, m16, m17, m18, m19, m20, m21, m22⟩ : Mat) x.side) (A9 (⟨⟨m0, m1, m2, m3, m4, m5, m6, m7, m8, m9, m10, m11, m12, m13⟩, m14, m15, m16, m17, m18, m19, m20, m21, m22⟩ : Mat) (Bi x.side)) <;> rfl)
theorem pb : ∀ (n k : Nat) (f : Nat → Nat), (∀ i, i < k → 1 ≤ f i ∧ f i ≤ n) → (∀ i j, i < j → j < k → f i ≠ f j) → k ≤ n
 | 0, k, f, h, _ => by
  rcases Nat.eq_zero_or_pos k with e | e
  ·omega
  ·have := h 0 e; omega
 | n + 1, 0, f, _, _ => by omega
 | n + 1, k + 1, f, h, hi => by
  by_cases he : ∃ j, j < k + 1 ∧ f j = n + 1
  ·obtain ⟨j, hj, hfj⟩ := he
   have := pb n k (fun i => if i = j then f k else f i) (fun i hik => by
    show 1 ≤ (if i = j then f k else f i) ∧ (if i = j then f k else f i) ≤ n
    by_cases e : i = j
    ·rw [if_pos e]
     have h1 := h k (by omega)
     have : f k ≠ f j := fun e2 => hi j k (by omega) (by omega) e2.symm
     omega
    ·rw [if_neg e]
     have h1 := h i (by omega)
     have : f i ≠ f j := by
      rcases Nat.lt_or_gt_of_ne e with e2 | e2
      ·exact hi i j e2 hj
      ·exact fun e3 => hi j i e2 (by omega) e3.symm
     omega) (fun a b hab hb => by
    show (if a = j then f k else f a) ≠ (if b = j then f k else f b)
    by_cases e1 : a = j
    ·have e2 : b ≠ j := by omega
     rw [if_pos e1, if_neg e2]
     exact fun e3 => hi b k hb (by omega) e3.symm
    ·rw [if_neg e1]
     by_cases e2 : b = j
     ·rw [if_pos e2]; exact hi a k (by omega) (by omega)
     ·rw [if_neg e2]; exact hi a b hab (by omega))
   omega
  ·have := pb n (k + 1) f (fun i hik => by
    have h1 := h i hik
    have : f i ≠ n + 1 := fun e => he ⟨i, hik, e⟩
    omega) hi
   omega
theorem qT {L : Rows} {n : Int} (h : GE L n = true) (hn : 0 ≤ n) : (L.length : Int) ≤ n := by
 unfold GE at h
 rw [Bool.not_eq_true', GX] at h
 have hb : ∀ i, i < L.length → 1 ≤ atI L i 0 ∧ atI L i 0 ≤ n := fun i hi => by
  have := h i (by omega) (by omega)
  unfold Ke at this
  rw [Bool.or_eq_false_iff, Bool.not_eq_false', eO] at this
  exact this.1
 have := pb n.toNat L.length (fun i => (atI L i 0).toNat) (fun i hi => by have := hb i hi; show 1 ≤ (atI L i 0).toNat ∧ (atI L i 0).toNat ≤ n.toNat; omega) (fun i j hij hj => by
  show (atI L i 0).toNat ≠ (atI L j 0).toNat
  have h1 := hb i (by omega)
  have h2 := hb j hj
  have h3 := h j (by omega) (by omega)
  unfold Ke at h3
  rw [Bool.or_eq_false_iff] at h3
  have h4 := GX.1 h3.2 i (by omega) (by omega)
  rw [beq_eq_false_iff_ne] at h4
  omega)
 omega
theorem Tp {r : Rul} {s : Inn} (h : Hn r s = true) : s.bowlers.length ≤ 11 ∧ s.before.length ≤ 11 ∧ s.Fit := by
 have ok := vi.1 h
 have hs := xT ok
 have h1 := qT ok.dw (by omega)
 have h2 := qT ok.df (by omega)
 have h3 := ok.lb
 have h4 := ok.ld
 have h5 := ok.lz
 exact ⟨by omega, by omega, by omega, by omega, by omega, by omega, by omega⟩
end Go.Px
end
section
namespace Go.Px
set_option maxRecDepth 100000
def Yw (m : Mat) (e : Ev) : Mat × Int :=
  let sd := Dq m (m.inns.length : Int)
  let b := Bn m.rules sd (HJ m sd) (cond (sd == 2) m.pen2 m.pen1)
  let t := Ct m.rules b.1 e
  cond (!(b.2 == 0)) (m, 1) (cond (!(t.2 == 0)) (m, t.2)
    ({ m with stage := 3, inns := m.inns ++ [t.1], pen1 := cond (sd == 1) 0 m.pen1, pen2 := cond (sd == 2) 0 m.pen2 }, 0))
def S7 (xs : List Inn) (sd : Int) : Nat → Option Nat
 | 0 => none
 | k + 1 => cond ((inn xs k).side == sd) (some k) (S7 xs sd k)
def Ly (m : Mat) (sd : Int) : Mat := match S7 m.inns sd m.inns.length with
 | some k => { m with inns := m.inns.set k (Oo (inn m.inns k)) }
 | none => { m with pen1 := cond (sd == 1) (IntKind.i64.wrap (m.pen1 + 5)) m.pen1, pen2 := cond (sd == 2) (IntKind.i64.wrap (m.pen2 + 5)) m.pen2 }
def eT (m : Mat) (e : Ev) : Mat × Int :=
 let t := Ct m.rules (BZ m) e
 cond (!(t.2 == 0)) (m, t.2) (cond (e.kind == 13 && !(e.side == t.1.side)) (Ly { m with inns := m.inns.set (lnx m.inns) t.1 } e.side) { m with inns := m.inns.set (lnx m.inns) t.1 }, 0)
def oQ (m : Mat) : Mat := { m with inns := cond (m.stage == 3) (m.inns.set (lnx m.inns) { BZ m with ending := 5 }) m.inns, stage := 5, win := YX m.rules, wside := 0, margin := 0 }
def H9 (m : Mat) (e : Ev) : Mat × Int :=
  cond (e.kind == 1) (cond (!(m.stage == 1)) (m, 1) ({ m with first := cond e.yes e.side (Bi e.side), stage := 2 }, 0))
    (cond (e.kind == 2) (cond (!(m.stage == 2)) (m, 1) (Yw m e))
      (cond (e.kind == 12) (cond (!(m.stage == 4)) (m, 1) (cond (!(e.side == m.first)) (m, 2) ({ m with follow := e.yes, stage := 2 }, 0)))
        (cond (e.kind == 16) (oQ m, 0) (cond (!(m.stage == 3)) (m, 1) (eT m e)))))
def QA (m : Mat) : Mat :=
  let n : Int := m.inns.length
  let sd := (BZ m).side
  let o := Mt { m with stage := 5 }
  cond (n == IntKind.i64.wrap (2 * m.rules.innings) || (n == 3 && iLt (A9 m sd) (A9 m (Bi sd)))) { m with stage := 5, win := o.1, wside := o.2.1, margin := o.2.2 }
    (cond (n == 2 && iLt 0 m.rules.followon && iLe m.rules.followon (IntKind.i64.wrap (A9 m m.first - A9 m (Bi m.first)))) { m with stage := 4 } { m with stage := 2 })
def N4 (m : Mat) : Mat := cond (m.stage == 3 && !((BZ m).ending == 0)) (QA m) m
def CQ (m : Mat) (e : Ev) : Mat × Int :=
 cond (!Cm m || !(evS e == 0)) (m, 1) (cond (m.stage == 5) (m, 26) (cond (!((H9 m e).2 == 0)) (m, (H9 m e).2) (N4 (H9 m e).1, 0)))
theorem bind_ok {X : Option (List PV)} {r : List PV} {k : List PV → Option (List PV)} {g : Option (List PV)} (h : X = some r) (hk : k r = g) : X.bind k = g := by rw [h]; exact hk
structure MatOk (m : Mat) : Prop where
 code : Ax m.rules = 0
 len : m.inns.length ≤ 4
 innv : ∀ i, i < m.inns.length → Hn m.rules (inn m.inns i) = true ∧ (inn m.inns i).side = Dq m (i : Int)
 begun : (m.stage == 3) = true → ((m.inns.length : Int) == 0) = false
 toss : (m.stage == 2) = true → m.first = 1 ∨ m.first = 2
 room : (m.stage == 2) = true → (m.inns.length : Int) < 2 * m.rules.innings
 most : IntKind.i64.wrap (2 * m.rules.innings) = 2 * m.rules.innings ∧ (m.inns.length : Int) ≤ 2 * m.rules.innings
theorem dW {m : Mat} (h : Cm m = true) : MatOk m := by
 unfold Cm oP at h
 simp only [Bool.and_eq_true, Bool.not_eq_true'] at h
 obtain ⟨⟨h1, h2, h3, h4, h5, h6, h7, h8, h9, h10⟩, h11, h12⟩ := h
 have hc := beq_iff_eq.1 h1
 have rk := (Kr hc).innings
 have e2 : IntKind.i64.wrap (2 * m.rules.innings) = 2 * m.rules.innings := EZ (by omega) (by omega)
 rw [e2] at h5 h8
 rw [Bool.or_eq_false_iff, Bool.or_eq_false_iff] at h5
 have hn := h5.2
 have hf1 := h5.1.1
 have hf2 := h5.1.2
 simp only [iLt, decide_eq_false_iff_not] at hn hf1 hf2
 refine ⟨hc, by omega, fun i hi => ?_, fun hs => ?_, fun hs => ?_, fun hs => ?_, e2, by omega⟩
 ·have := GX.1 h11 i (by omega) (by omega)
  unfold Jx at this
  rw [Bool.or_eq_false_iff, Bool.not_eq_false', Bool.not_eq_false', beq_iff_eq] at this
  exact this
 ·unfold Ya at h12
  rw [hs, Bool.and_eq_true] at h12
  have := h12.2
  simp only [iLt, Bool.not_true, Bool.false_or, decide_eq_true_eq] at this
  exact beq_false_of_ne (by omega)
 ·rw [beq_iff_eq.1 hs] at h6
  cases h0 : m.first == 0 with
  | true => rw [h0] at h6; simp at h6
  | false =>
   rw [beq_eq_false_iff_ne] at h0
   omega
 ·rw [hs, Bool.true_and, beq_eq_false_iff_ne] at h8
  omega
theorem qi {m : Mat} (h : m.first = 1 ∨ m.first = 2) (i : Int) : Dq m i = 1 ∨ Dq m i = 2 := by
 unfold Dq
 cases cond (m.follow && iLe 2 i) (i == 2) (i.tmod 2 == 1) with
 | false => exact h
 | true => rcases h with h | h <;> rw [h] <;> decide
theorem vY {m : Mat} (h : MatOk m) : Cw m.inns := fun i hi => (Tp (h.innv i hi).1).2.2
theorem ZL {F : (List Ai → Option (List PV)) → List PV → Option (List PV)} {len : Nat} (enc : Nat → List Ai) (ans : Nat → Option (List PV))
    (h0 : ∀ self, F self ((enc len).map Leaf.pv) = some [.int 1]) (h1 : ∀ i self, i < len → F self ((enc i).map Leaf.pv) = match ans i with | some r => some (.int 0 :: r) | none => self (enc (i + 1))) :
    ∀ (k i n : Nat), i + k = len → k < n → IP F n ((enc i).map Leaf.pv) = some (Th (B8 ans k i))
  | 0, i, n, hk, hn => by
    obtain ⟨n, rfl⟩ : ∃ m, n = m + 1 := ⟨n - 1, by omega⟩
    obtain rfl : i = len := by omega
    exact h0 _
  | k + 1, i, n, hk, hn => by
    obtain ⟨n, rfl⟩ : ∃ m, n = m + 1 := ⟨n - 1, by omega⟩
    show F _ _ = _
    rw [h1 i _ (by omega)]
    simp only [B8]
    cases ans i with
    | some r => rfl
    | none => exact ZL enc ans h0 h1 k (i + 1) n (by omega) (by omega)
theorem mK (ys : List Inn) (sd : Int) (g : Nat → List PV) (n : Nat) : ∀ k, k ≤ n → B8 (fun j => cond ((inn ys (n - 1 - j)).side == sd) (some (g (n - 1 - j))) none) k (n - k) = (S7 ys sd k).map g
 | 0, _ => rfl
 | k + 1, h => by
  have ih := mK ys sd g n k (by omega)
  have e : n - 1 - (n - (k + 1)) = k := by omega
  have e2 : n - (k + 1) + 1 = n - k := by omega
  simp only [B8, S7, e, e2, ih]
  cases (inn ys k).side == sd <;> rfl
theorem xY (xs : List Inn) (k : Nat) (s : Inn) (i : Nat) (hi : i < xs.length) : inn (xs.set k s) i = (if k = i then s else inn xs i) := by
 rw [Ui, Ui, List.getElem?_set]
 by_cases h : k = i
 ·subst h
  rw [if_pos rfl, if_pos rfl, if_pos hi]
 ·rw [if_neg h, if_neg h]
theorem T7 {xs : List Inn} {s : Inn} (k : Nat) (h : Cw xs) (hs : s.Fit) : Cw (xs.set k s) := fun i hi => by
 rw [List.length_set] at hi
 rw [xY xs k s i hi]
 by_cases e : k = i
 ·rw [if_pos e]; exact hs
 ·rw [if_neg e]; exact h i hi
theorem mt {e : Ev} (h : (evS e == 0) = true) (hk : (e.kind == 13) = true) : e.side = 1 ∨ e.side = 2 := by
 have h0 := ec h
 rw [beq_iff_eq] at hk
 unfold evS at h
 rw [h0] at h
 cases h1 : mA e with
 | true => rw [h1] at h; cases h
 | false =>
  cases h2 : dj e with
  | true => rw [h1, h2] at h; cases h
  | false =>
   unfold dj at h2
   rw [Bool.or_eq_false_iff] at h2
   have h3 := h2.1
   rw [hk, show uS 13 = true from rfl, Bool.and_true] at h3
   simp only [btw, iLe, Bool.not_eq_false', Bool.and_eq_true, decide_eq_true_eq] at h3
   omega
theorem xP (xs : List Inn) (s : Inn) (i : Nat) (hi : i < xs.length + 1) : inn (xs ++ [s]) i = (if i < xs.length then inn xs i else s) := by
 rw [Ui, Ui]
 by_cases h : i < xs.length
 ·rw [if_pos h, List.getElem?_append_left h]
 ·have : i = xs.length := by omega
  subst this
  rw [if_neg h, List.getElem?_append_right (Nat.le_refl _), Nat.sub_self]
  rfl
theorem wF {xs : List Inn} {s : Inn} (h : Cw xs) (hs : s.Fit) : Cw (xs ++ [s]) := fun i hi => by
 rw [List.length_append] at hi
 rw [xP xs s i hi]
 by_cases e : i < xs.length
 ·rw [if_pos e]; exact h i e
 ·rw [if_neg e]; exact hs
theorem lE (r : Rul) (a b c : Int) (e : Ev) : (Ct r (Bn r a b c).1 e).1.Fit := by
 obtain ⟨f, h1, h2⟩ := IR r a b c
 exact LT (WB r _ e) f (by rw [h1, h2]; exact Nat.zero_le _)
structure ActOk (m : Mat) (x : Mat × Int) : Prop where
 rules : x.1.rules = m.rules
 fit : Cw x.1.inns
 len : x.1.inns.length ≤ 5
 some' : (x.2 == 0) = true → (x.1.stage == 3) = true → ((x.1.inns.length : Int) == 0) = false
theorem A_c {m : Mat} (b : Bool) (x y : Mat × Int) (hx : ActOk m x) (hy : ActOk m y) : ActOk m (cond b x y) := by cases b <;> assumption
theorem wy {m : Mat} (sd : Int) (hf : Cw m.inns) : (Ly m sd).rules = m.rules ∧ Cw (Ly m sd).inns ∧ (Ly m sd).inns.length = m.inns.length ∧ (Ly m sd).stage = m.stage := by
 unfold Ly
 cases h : S7 m.inns sd m.inns.length with
 | none => exact ⟨rfl, hf, rfl, rfl⟩
 | some k =>
  have hk : k < m.inns.length := by
   have : ∀ n, S7 m.inns sd n = some k → k < n := by
    intro n
    induction n with
    | zero => intro h; cases h
    | succ n ih =>
     intro h
     unfold S7 at h
     cases hq : (inn m.inns n).side == sd with
     | true => rw [hq] at h; cases h; omega
     | false => rw [hq] at h; have := ih h; omega
   exact this _ h
  exact ⟨rfl, T7 k hf (xZ (hf k hk)), List.length_set, rfl⟩
theorem pe {m : Mat} (ok : MatOk m) (e : Ev) : ActOk m (H9 m e) := by
 have hf := vY ok
 have hl := ok.len
 have self : ∀ n : Int, (n == 0) = false → ActOk m (m, n) := fun n hn => ⟨rfl, hf, by show m.inns.length ≤ 5; omega, fun h => by rw [hn] at h; cases h⟩
 unfold H9
 refine A_c _ _ _ (A_c _ _ _ (self 1 rfl) ⟨rfl, hf, by show m.inns.length ≤ 5; omega, fun _ h => by cases h⟩) (A_c _ _ _ ?_ (A_c _ _ _ ?_ (A_c _ _ _ ?_ ?_)))
 ·refine A_c _ _ _ (self 1 rfl) ?_
  unfold Yw
  refine A_c _ _ _ (self 1 rfl) ?_
  cases hq : (Ct m.rules (Bn m.rules (Dq m (m.inns.length : Int)) (HJ m (Dq m (m.inns.length : Int))) (cond (Dq m (m.inns.length : Int) == 2) m.pen2 m.pen1)).1 e).2 == 0 with
  | false =>
   simp only [Bool.not_false, cond_true]
   exact self _ hq
  | true =>
   simp only [Bool.not_true, cond_false]
   exact ⟨rfl, wF hf (lE _ _ _ _ e), by simp; omega, fun _ _ => by
    show ((((m.inns ++ [_]).length : Nat) : Int) == 0) = false
    rw [List.length_append]
    exact beq_false_of_ne (by simp; omega)⟩
 ·exact A_c _ _ _ (self 1 rfl) (A_c _ _ _ (self 2 rfl) ⟨rfl, hf, by show m.inns.length ≤ 5; omega, fun _ h => by cases h⟩)
 ·unfold oQ
  cases h3 : m.stage == 3 with
  | false => exact ⟨rfl, hf, by show m.inns.length ≤ 5; omega, fun _ h => by cases h⟩
  | true =>
   have h0 := ok.begun h3
   have fl := hf (lnx m.inns) (jJ h0 (by omega))
   exact ⟨rfl, T7 _ hf ⟨fl.bt, fl.bw, fl.bf, fl.bd, fl.sb⟩, by show (m.inns.set _ _).length ≤ 5; rw [List.length_set]; omega, fun _ h => by cases h⟩
 ·cases h3 : m.stage == 3 with
  | false => exact self 1 rfl
  | true =>
   have h0 := ok.begun h3
   have lv := Tp (ok.innv (lnx m.inns) (jJ h0 (by omega))).1
   have h1 := lv.1
   have h2 := lv.2.1
   have ft := LT (WB m.rules (BZ m) e) lv.2.2 (show (inn m.inns (lnx m.inns)).before.length + (inn m.inns (lnx m.inns)).bowlers.length ≤ 1048575 by omega)
   simp only [Bool.not_true, cond_false, eT]
   cases hq : (Ct m.rules (BZ m) e).2 == 0 with
   | false =>
    simp only [Bool.not_false, Bool.not_true, cond_true, cond_false]
    exact self _ hq
   | true =>
    have fs := T7 (lnx m.inns) hf ft
    have ln : (m.inns.set (lnx m.inns) (Ct m.rules (BZ m) e).1).length = m.inns.length := List.length_set
    simp only [Bool.not_true, cond_false]
    cases (e.kind == 13 && !(e.side == (Ct m.rules (BZ m) e).1.side)) with
    | false =>
     exact ⟨rfl, fs, by show (m.inns.set _ _).length ≤ 5; omega, fun _ _ => by
      show ((((m.inns.set _ _).length : Nat) : Int) == 0) = false
      rw [ln]; exact h0⟩
    | true =>
     obtain ⟨a1, a2, a3, a4⟩ := wy (m := { m with inns := m.inns.set (lnx m.inns) (Ct m.rules (BZ m) e).1 }) e.side fs
     exact ⟨a1, a2, by show (Ly _ _).inns.length ≤ 5; rw [a3]; show (m.inns.set _ _).length ≤ 5; omega, fun _ _ => by
      show ((((Ly _ _).inns.length : Nat) : Int) == 0) = false
      rw [a3]
      show ((((m.inns.set _ _).length : Nat) : Int) == 0) = false
      rw [ln]; exact h0⟩
end Go.Px
end
section
namespace Go.Px
set_option maxRecDepth 100000
set_option maxHeartbeats 8000000 in
theorem Uf {N : Nat} {m1 m2 m3 m4 m5 m6 m7 m9 m10 m11 m12 m14 m15 m18 m19 m20 m21 m22 : Int} {m8 m16 : Bool} {m0 : ByteArray} {m13 : Rows} {m17 : List Inn} {e0 e1 e2 e3 e5 e6 e7 e8 e9 e10 e11 e13 e14 e15 e16 e18 : Int} {e4 e12 e17 : Bool} (hN : 2097152 < N) (hf : Cw m17) (hl : m17.length ≤ 1000000) (hs : m0.size ≤ 1048576) (h13 : m13.length ≤ 1048576) : FG N [.str m0, .int m1, .int m2, .int m3, .int m4, .int m5, .int m6, .int m7, .bool m8, .int m9, .int m10, .int m11, .int m12, .rows m13, .int m14, .int m15, .bool m16, .rows (AQ m17), .int m18, .int m19, .int m20, .int m21, .int m22, .int e0, .int e1, .int e2, .int e3, .bool e4, .int e5, .int e6, .int e7, .int e8, .int e9, .int e10, .int e11, .bool e12, .int e13, .int e14, .int e15, .int e16, .bool e17, .int e18] = some (Em (CQ (⟨⟨m0, m1, m2, m3, m4, m5, m6, m7, m8, m9, m10, m11, m12, m13⟩, m14, m15, m16, m17, m18, m19, m20, m21, m22⟩ : Mat) (⟨e0, e1, e2, e3, e4, e5, e6, ⟨e7, e8, e9, e10, e11, e12, e13, e14, e15, e16, e17, e18⟩⟩ : Ev))) := by
 show OT (std (A3 N) N) (xOf _) = _
 generalize hres : (some (Em (CQ (⟨⟨m0, m1, m2, m3, m4, m5, m6, m7, m8, m9, m10, m11, m12, m13⟩, m14, m15, m16, m17, m18, m19, m20, m21, m22⟩ : Mat) (⟨e0, e1, e2, e3, e4, e5, e6, ⟨e7, e8, e9, e10, e11, e12, e13, e14, e15, e16, e17, e18⟩⟩ : Ev))) : Option (List PV)) = RR
 simp only [OT, UA, Uk, Ub, FK, E8, KG, Iz, EL, Ej, C4, DR, HF, std, xOf, PXb, aw hf hN hl hs, aP hN, aO hf hN hl h13]
 subst hres; simp only [CQ]
 cases hv : Cm (⟨⟨m0, m1, m2, m3, m4, m5, m6, m7, m8, m9, m10, m11, m12, m13⟩, m14, m15, m16, m17, m18, m19, m20, m21, m22⟩ : Mat)
 case false => rfl
 cases he : evS (⟨e0, e1, e2, e3, e4, e5, e6, ⟨e7, e8, e9, e10, e11, e12, e13, e14, e15, e16, e17, e18⟩⟩ : Ev) == 0
 case false => simp only [PXb, he]; rfl
 simp only [PXb, he]
 cases h5 : m14 == 5
 case true => rfl
 simp only [PXb]
 have ok := dW hv
 refine bind_ok (r := .int (H9 (⟨⟨m0, m1, m2, m3, m4, m5, m6, m7, m8, m9, m10, m11, m12, m13⟩, m14, m15, m16, m17, m18, m19, m20, m21, m22⟩ : Mat) (⟨e0, e1, e2, e3, e4, e5, e6, ⟨e7, e8, e9, e10, e11, e12, e13, e14, e15, e16, e17, e18⟩⟩ : Ev)).2 :: (H9 (⟨⟨m0, m1, m2, m3, m4, m5, m6, m7, m8, m9, m10, m11, m12, m13⟩, m14, m15, m16, m17, m18, m19, m20, m21, m22⟩ : Mat) (⟨e0, e1, e2, e3, e4, e5, e6, ⟨e7, e8, e9, e10, e11, e12, e13, e14, e15, e16, e17, e18⟩⟩ : Ev)).1.ls) ?_ ?_
 ·unfold H9
  cases hk1 : e0 == 1
  case true =>
   simp only [PXb, E8, Ia]
   cases m14 == 1 <;> cases e4 <;> rfl
  cases hk2 : e0 == 2
  case true =>
   simp only [PXb]
   cases hs2 : m14 == 2
   case false => rfl
   have hl2 : m17.length ≤ 1048576 := by omega
   have h304 : iSm ((m17.length + 1 : Nat) : Int) 304 = true := Gx (by omega) (by omega)
   have fb := fun a b c => (IR (⟨⟨m0, m1, m2, m3, m4, m5, m6, m7, m8, m9, m10, m11, m12, m13⟩, m14, m15, m16, m17, m18, m19, m20, m21, m22⟩ : Mat).rules a b c).1
   have wb : ∀ a b c, (Bn (⟨⟨m0, m1, m2, m3, m4, m5, m6, m7, m8, m9, m10, m11, m12, m13⟩, m14, m15, m16, m17, m18, m19, m20, m21, m22⟩ : Mat).rules a b c).1.before.length + (Bn (⟨⟨m0, m1, m2, m3, m4, m5, m6, m7, m8, m9, m10, m11, m12, m13⟩, m14, m15, m16, m17, m18, m19, m20, m21, m22⟩ : Mat).rules a b c).1.bowlers.length ≤ 1000000 := fun a b c => by
    rw [(IR (⟨⟨m0, m1, m2, m3, m4, m5, m6, m7, m8, m9, m10, m11, m12, m13⟩, m14, m15, m16, m17, m18, m19, m20, m21, m22⟩ : Mat).rules a b c).2.1, (IR (⟨⟨m0, m1, m2, m3, m4, m5, m6, m7, m8, m9, m10, m11, m12, m13⟩, m14, m15, m16, m17, m18, m19, m20, m21, m22⟩ : Mat).rules a b c).2.2]
    exact Nat.zero_le _
   rcases qi (m := (⟨⟨m0, m1, m2, m3, m4, m5, m6, m7, m8, m9, m10, m11, m12, m13⟩, m14, m15, m16, m17, m18, m19, m20, m21, m22⟩ : Mat)) (ok.toss hs2) (m17.length : Int) with ho | ho
   ·simp only [PXb, PXc, CS, Uy, Nat.reduceAdd, Int.reduceBEq, PXi, PXr, Inn.eta, AX, List.length_append, List.length_cons, List.length_nil, h304, Yw, FK, Ej, EL, C4, R4, Yg hN hl2, WP hN hs, QU (fb _ _ _) (wb _ _ _) hN hs h13, ho, wr1, wr2, W2, W1]
    cases (Bn (⟨⟨m0, m1, m2, m3, m4, m5, m6, m7, m8, m9, m10, m11, m12, m13⟩, m14, m15, m16, m17, m18, m19, m20, m21, m22⟩ : Mat).rules 1 (HJ (⟨⟨m0, m1, m2, m3, m4, m5, m6, m7, m8, m9, m10, m11, m12, m13⟩, m14, m15, m16, m17, m18, m19, m20, m21, m22⟩ : Mat) 1) m18).2 == 0 <;> try rfl
    cases (Ct (⟨⟨m0, m1, m2, m3, m4, m5, m6, m7, m8, m9, m10, m11, m12, m13⟩, m14, m15, m16, m17, m18, m19, m20, m21, m22⟩ : Mat).rules (Bn (⟨⟨m0, m1, m2, m3, m4, m5, m6, m7, m8, m9, m10, m11, m12, m13⟩, m14, m15, m16, m17, m18, m19, m20, m21, m22⟩ : Mat).rules 1 (HJ (⟨⟨m0, m1, m2, m3, m4, m5, m6, m7, m8, m9, m10, m11, m12, m13⟩, m14, m15, m16, m17, m18, m19, m20, m21, m22⟩ : Mat) 1) m18).1 (⟨e0, e1, e2, e3, e4, e5, e6, ⟨e7, e8, e9, e10, e11, e12, e13, e14, e15, e16, e17, e18⟩⟩ : Ev)).2 == 0 <;> rfl
   ·simp only [PXb, PXc, CS, Uy, Nat.reduceAdd, Int.reduceBEq, PXi, PXr, Inn.eta, AX, List.length_append, List.length_cons, List.length_nil, h304, Yw, FK, Ej, EL, C4, R4, Yg hN hl2, WP hN hs, QU (fb _ _ _) (wb _ _ _) hN hs h13, ho, wr1, wr2, W2, W1]
    cases (Bn (⟨⟨m0, m1, m2, m3, m4, m5, m6, m7, m8, m9, m10, m11, m12, m13⟩, m14, m15, m16, m17, m18, m19, m20, m21, m22⟩ : Mat).rules 2 (HJ (⟨⟨m0, m1, m2, m3, m4, m5, m6, m7, m8, m9, m10, m11, m12, m13⟩, m14, m15, m16, m17, m18, m19, m20, m21, m22⟩ : Mat) 2) m19).2 == 0 <;> try rfl
    cases (Ct (⟨⟨m0, m1, m2, m3, m4, m5, m6, m7, m8, m9, m10, m11, m12, m13⟩, m14, m15, m16, m17, m18, m19, m20, m21, m22⟩ : Mat).rules (Bn (⟨⟨m0, m1, m2, m3, m4, m5, m6, m7, m8, m9, m10, m11, m12, m13⟩, m14, m15, m16, m17, m18, m19, m20, m21, m22⟩ : Mat).rules 2 (HJ (⟨⟨m0, m1, m2, m3, m4, m5, m6, m7, m8, m9, m10, m11, m12, m13⟩, m14, m15, m16, m17, m18, m19, m20, m21, m22⟩ : Mat) 2) m19).1 (⟨e0, e1, e2, e3, e4, e5, e6, ⟨e7, e8, e9, e10, e11, e12, e13, e14, e15, e16, e17, e18⟩⟩ : Ev)).2 == 0 <;> rfl
  cases hk3 : e0 == 12
  case true =>
   simp only [PXb]
   cases m14 == 4 <;> cases e1 == m15 <;> rfl
  cases hk4 : e0 == 16
  case true =>
   simp only [PXb, oQ]
   cases h3 : m14 == 3
   case false => simp only [PXb, PXc, PXi, PXr, CS, Nat.reduceAdd, DR, J6]; rfl
   simp only [PXb, PXc, PXi, PXr, CS, Nat.reduceAdd, NQ (ok.begun h3) hl, DR, J6]
   rfl
  simp only [PXb]
  cases h3 : m14 == 3
  case false => rfl
  have h0 := ok.begun h3
  have lv := Tp (ok.innv (lnx m17) (jJ h0 hl)).1
  have fl : (inn m17 (IntKind.i64.wrap ((m17.length : Int) - 1)).toNat).Fit := lv.2.2
  have wl : (inn m17 (IntKind.i64.wrap ((m17.length : Int) - 1)).toNat).before.length + (inn m17 (IntKind.i64.wrap ((m17.length : Int) - 1)).toNat).bowlers.length ≤ 1000000 := by
   have h1 := lv.1
   have h2 := lv.2.1
   change (inn m17 (IntKind.i64.wrap ((m17.length : Int) - 1)).toNat).bowlers.length ≤ 11 at h1
   change (inn m17 (IntKind.i64.wrap ((m17.length : Int) - 1)).toNat).before.length ≤ 11 at h2
   omega
  have f1 := LT (WB (⟨⟨m0, m1, m2, m3, m4, m5, m6, m7, m8, m9, m10, m11, m12, m13⟩, m14, m15, m16, m17, m18, m19, m20, m21, m22⟩ : Mat).rules (inn m17 (IntKind.i64.wrap ((m17.length : Int) - 1)).toNat) (⟨e0, e1, e2, e3, e4, e5, e6, ⟨e7, e8, e9, e10, e11, e12, e13, e14, e15, e16, e17, e18⟩⟩ : Ev)) fl (by omega)
  simp only [PXb, PXc, PXi, PXr, AX, Inn.eta, CS, Nat.reduceAdd, List.length_set, NQ h0 hl, C4, QU fl wl hN hs h13, eT, BZ, lnx]
  generalize hX : Ct (⟨⟨m0, m1, m2, m3, m4, m5, m6, m7, m8, m9, m10, m11, m12, m13⟩, m14, m15, m16, m17, m18, m19, m20, m21, m22⟩ : Mat).rules (inn m17 (IntKind.i64.wrap ((m17.length : Int) - 1)).toNat) (⟨e0, e1, e2, e3, e4, e5, e6, ⟨e7, e8, e9, e10, e11, e12, e13, e14, e15, e16, e17, e18⟩⟩ : Ev) = X at f1
  have fy := T7 (IntKind.i64.wrap ((m17.length : Int) - 1)).toNat hf f1
  generalize hy : m17.set (IntKind.i64.wrap ((m17.length : Int) - 1)).toNat X.1 = ys at fy
  have ly : ys.length = m17.length := by rw [← hy, List.length_set]
  cases X.2 == 0 <;> try rfl
  cases h13k : e0 == 13
  case false => rfl
  cases hsd : e1 == X.1.side
  case true => rfl
  simp only [PXb, Option.bind_assoc]
  have e0w : IntKind.i64.wrap ((m17.length : Int) - 1) = (m17.length : Int) - 1 - ((0 : Nat) : Int) := by
   rw [beq_eq_false_iff_ne] at h0
   rw [EZ (by omega) (by omega)]; omega
  rw [e0w]
  have hside := mt (e := (⟨e0, e1, e2, e3, e4, e5, e6, ⟨e7, e8, e9, e10, e11, e12, e13, e14, e15, e16, e17, e18⟩⟩ : Ev)) he h13k
  simp only at hside
  refine AK (ZL (len := m17.length) (fun j => [.int ((m17.length : Int) - 1 - (j : Int))]) (fun j => cond ((inn ys (m17.length - 1 - j)).side == e1) (some [PV.str m0, PV.int m1, PV.int m2, PV.int m3, PV.int m4, PV.int m5, PV.int m6, PV.int m7, PV.bool m8, PV.int m9, PV.int m10, PV.int m11, PV.int m12, PV.rows m13, PV.int m14, PV.int m15, PV.bool m16, PV.rows (AQ (ys.set (m17.length - 1 - j) (Oo (inn ys (m17.length - 1 - j))))), PV.int m18, PV.int m19, PV.int m20, PV.int m21, PV.int m22]) none) ?_ ?_ m17.length 0 N (by omega) (by omega)) ?_
  ·intro self
   have q1 : iLe 0 ((m17.length : Int) - 1 - (m17.length : Int)) = false := by simp only [iLe, decide_eq_false_iff_not]; omega
   simp only [PXb, q1]
  ·intro i self hi
   have q1 : iLe 0 ((m17.length : Int) - 1 - (i : Int)) = true := by simp only [iLe, decide_eq_true_eq]; omega
   have q2 : iIn ((m17.length : Int) - 1 - (i : Int)) (m17.length : Int) = true := by simp only [iIn, decide_eq_true_eq]; omega
   have q3 : ((m17.length : Int) - 1 - (i : Int)).toNat = m17.length - 1 - i := by omega
   have q4 : IntKind.i64.wrap ((m17.length : Int) - 1 - (i : Int) - 1) = (m17.length : Int) - 1 - ((i + 1 : Nat) : Int) := by rw [EZ (by omega) (by omega)]; omega
   have q5 := fy (m17.length - 1 - i) (by omega)
   simp only [PXb, PXc, q1, q2, q3, q4, HF, Se q5, PXm]
   cases (inn ys (m17.length - 1 - i)).side == e1 <;> rfl
  ·have hfa := mK ys e1 (fun k => [PV.str m0, PV.int m1, PV.int m2, PV.int m3, PV.int m4, PV.int m5, PV.int m6, PV.int m7, PV.bool m8, PV.int m9, PV.int m10, PV.int m11, PV.int m12, PV.rows m13, PV.int m14, PV.int m15, PV.bool m16, PV.rows (AQ (ys.set k (Oo (inn ys k)))), PV.int m18, PV.int m19, PV.int m20, PV.int m21, PV.int m22]) m17.length m17.length (Nat.le_refl _)
   rw [Nat.sub_self] at hfa
   rw [hfa]
   unfold Ly
   simp only [ly]
   cases S7 ys e1 m17.length with
   | some k => rfl
   | none =>
    rcases hside with h | h <;> subst h
    ·simp only [Option.map_none, Th, PXb, PXc, CS, Int.reduceBEq, wr1, W2]
     rfl
    ·simp only [Option.map_none, Th, PXb, PXc, CS, Int.reduceBEq, wr2, W1]
     rfl
 ·have ak := pe ok (⟨e0, e1, e2, e3, e4, e5, e6, ⟨e7, e8, e9, e10, e11, e12, e13, e14, e15, e16, e17, e18⟩⟩ : Ev)
  generalize H9 (⟨⟨m0, m1, m2, m3, m4, m5, m6, m7, m8, m9, m10, m11, m12, m13⟩, m14, m15, m16, m17, m18, m19, m20, m21, m22⟩ : Mat) (⟨e0, e1, e2, e3, e4, e5, e6, ⟨e7, e8, e9, e10, e11, e12, e13, e14, e15, e16, e17, e18⟩⟩ : Ev) = A at ak
  obtain ⟨⟨⟨a0, a1, a2, a3, a4, a5, a6, a7, a8, a9, a10, a11, a12, a13⟩, a14, a15, a16, a17, a18, a19, a20, a21, a22⟩, l⟩ := A
  obtain ⟨k1, k2, k3, k4⟩ := ak
  simp only at k1 k2 k3 k4
  have hl5 : a17.length ≤ 1048576 := by omega
  have hs5 : a0.size ≤ 1048576 := by
   have := congrArg Rul.name k1
   simp only at this
   rw [this]; exact hs
  simp only [PXb, PXc, PXk, PXi, CS, Nat.reduceAdd]
  cases hl0 : l == 0
  case false => rfl
  simp only [PXb, N4]
  cases h3 : a14 == 3
  case false => rfl
  have h0 := k4 hl0 h3
  have li := NQ h0 (show a17.length ≤ 1000000 by omega)
  simp only [PXb, PXc, PXi, li]
  cases he2 : (inn a17 (IntKind.i64.wrap ((a17.length : Int) - 1)).toNat).ending == 0
  case true => simp only [PXb, BZ, lnx, he2]
  simp only [PXb, PXc, PXi, BZ, lnx, he2, KG, E8, Iz, SH hN hl5, Ia, kN k2 hN (show a17.length ≤ 1000000 by omega) hs5]
  unfold QA
  simp only [BZ, lnx]
  simp only [A9, BZ, lnx]
  cases hq1 : ((a17.length : Int) == IntKind.i64.wrap (2 * a2))
  case true => rfl
  cases hq2 : ((a17.length : Int) == 3)
  case true =>
   simp only [PXb]
   cases iLt (Gc a17 (inn a17 (IntKind.i64.wrap ((a17.length : Int) - 1)).toNat).side a17.length) (Gc a17 (Bi (inn a17 (IntKind.i64.wrap ((a17.length : Int) - 1)).toNat).side) a17.length)
   case true => rfl
   simp only [PXb]
   cases ((a17.length : Int) == 2) && iLt 0 a10 && iLe a10 (IntKind.i64.wrap (Gc a17 a15 a17.length - Gc a17 (Bi a15) a17.length)) <;> rfl
  simp only [PXb]
  cases ((a17.length : Int) == 2) && iLt 0 a10 && iLe a10 (IntKind.i64.wrap (Gc a17 a15 a17.length - Gc a17 (Bi a15) a17.length)) <;> rfl
end Go.Px
end
section
namespace Go.Px
set_option maxRecDepth 100000
def UY (m : Mat) : Int := cond (!Cm m) 0 (cond (m.stage == 3) (BZ m).side (cond (m.stage == 2) (Dq m (m.inns.length : Int)) 0))
theorem nW {N : Nat} {m1 m2 m3 m4 m5 m6 m7 m9 m10 m11 m12 m14 m15 m18 m19 m20 m21 m22 : Int} {m8 m16 : Bool} {m0 : ByteArray} {m13 : Rows} {m17 : List Inn} (hf : Cw m17) (hN : 2097152 < N) (hl : m17.length ≤ 1000000) (hs : m0.size ≤ 1048576) : Ih N [.str m0, .int m1, .int m2, .int m3, .int m4, .int m5, .int m6, .int m7, .bool m8, .int m9, .int m10, .int m11, .int m12, .rows m13, .int m14, .int m15, .bool m16, .rows (AQ m17), .int m18, .int m19, .int m20, .int m21, .int m22] = some [.int (UY (⟨⟨m0, m1, m2, m3, m4, m5, m6, m7, m8, m9, m10, m11, m12, m13⟩, m14, m15, m16, m17, m18, m19, m20, m21, m22⟩ : Mat))] := by
 show I1 (std (Cb N) N) (xOf _) = _
 generalize hres : (some [.int (UY (⟨⟨m0, m1, m2, m3, m4, m5, m6, m7, m8, m9, m10, m11, m12, m13⟩, m14, m15, m16, m17, m18, m19, m20, m21, m22⟩ : Mat))] : Option (List PV)) = RR
 simp only [I1, VY, Ls, Jw, std, xOf, PXb, XT hf hN hl hs]
 subst hres; simp only [UY]
 cases hv : Cm (⟨⟨m0, m1, m2, m3, m4, m5, m6, m7, m8, m9, m10, m11, m12, m13⟩, m14, m15, m16, m17, m18, m19, m20, m21, m22⟩ : Mat)
 case false => rfl
 have ok := dW hv
 simp only [PXb]
 cases h3 : m14 == 3
 case true => simp only [PXb, PXi, Ls, Sv (ok.begun h3) hl, BZ, PXm]
 cases h2 : m14 == 2
 case false => rfl
 have hr := ok.room h2
 have rk := (Kr ok.code).innings
 simp only at hr rk
 have hi3 : 0 ≤ (m17.length : Int) ∧ (m17.length : Int) ≤ 3 := by omega
 simp only [PXb, PXi, Jw, eD hi3]
theorem vd {m : Mat} (ok : MatOk m) (h2 : (m.stage == 2) = true) (sd : Int) : HJ m sd = cond (IntKind.i64.wrap ((m.inns.length : Int) + 1) == IntKind.i64.wrap (2 * m.rules.innings)) (IntKind.i64.wrap (IntKind.i64.wrap (A9 m (Bi sd) - A9 m sd) + 1)) 0 := by
 have hr := ok.room h2
 have hm := ok.most.1
 have hl := ok.len
 unfold HJ
 rw [hm, EZ (by omega) (by omega)]
 cases hq : ((m.inns.length : Int) + 1 == 2 * m.rules.innings) with
 | true =>
  rw [beq_iff_eq] at hq
  rw [show iLt ((m.inns.length : Int) + 1) (2 * m.rules.innings) = false by simp only [iLt, decide_eq_false_iff_not]; omega]
  rfl
 | false =>
  rw [beq_eq_false_iff_ne] at hq
  rw [show iLt ((m.inns.length : Int) + 1) (2 * m.rules.innings) = true by simp only [iLt, decide_eq_true_eq]; omega]
  rfl
set_option maxHeartbeats 4000000 in
theorem tA {N : Nat} {m1 m2 m3 m4 m5 m6 m7 m9 m10 m11 m12 m14 m15 m18 m19 m20 m21 m22 : Int} {m8 m16 : Bool} {m0 : ByteArray} {m13 : Rows} {m17 : List Inn} {e0 e1 e2 e3 e5 e6 e7 e8 e9 e10 e11 e13 e14 e15 e16 e18 : Int} {e4 e12 e17 : Bool} (hN : 2097152 < N) (hf : Cw m17) (hl : m17.length ≤ 1000000) (hs : m0.size ≤ 1048576) (h13 : m13.length ≤ 1048576) (ok : MatOk (⟨⟨m0, m1, m2, m3, m4, m5, m6, m7, m8, m9, m10, m11, m12, m13⟩, m14, m15, m16, m17, m18, m19, m20, m21, m22⟩ : Mat)) (hv : Cm (⟨⟨m0, m1, m2, m3, m4, m5, m6, m7, m8, m9, m10, m11, m12, m13⟩, m14, m15, m16, m17, m18, m19, m20, m21, m22⟩ : Mat) = true) (hs2 : (m14 == 2) = true) : OJ N [.str m0, .int m1, .int m2, .int m3, .int m4, .int m5, .int m6, .int m7, .bool m8, .int m9, .int m10, .int m11, .int m12, .rows m13, .int m14, .int m15, .bool m16, .rows (AQ m17), .int m18, .int m19, .int m20, .int m21, .int m22, .int e0, .int e1, .int e2, .int e3, .bool e4, .int e5, .int e6, .int e7, .int e8, .int e9, .int e10, .int e11, .bool e12, .int e13, .int e14, .int e15, .int e16, .bool e17, .int e18] = some (Em (Yw (⟨⟨m0, m1, m2, m3, m4, m5, m6, m7, m8, m9, m10, m11, m12, m13⟩, m14, m15, m16, m17, m18, m19, m20, m21, m22⟩ : Mat) (⟨e0, e1, e2, e3, e4, e5, e6, ⟨e7, e8, e9, e10, e11, e12, e13, e14, e15, e16, e17, e18⟩⟩ : Ev))) := by
 show PQ (std (Cg N) N) (xOf _) = _
 have hl2 : m17.length ≤ 1048576 := by omega
 have h304 : iSm ((m17.length + 1 : Nat) : Int) 304 = true := Gx (by omega) (by omega)
 have fb := fun a b c => (IR (⟨⟨m0, m1, m2, m3, m4, m5, m6, m7, m8, m9, m10, m11, m12, m13⟩, m14, m15, m16, m17, m18, m19, m20, m21, m22⟩ : Mat).rules a b c).1
 have wb : ∀ a b c, (Bn (⟨⟨m0, m1, m2, m3, m4, m5, m6, m7, m8, m9, m10, m11, m12, m13⟩, m14, m15, m16, m17, m18, m19, m20, m21, m22⟩ : Mat).rules a b c).1.before.length + (Bn (⟨⟨m0, m1, m2, m3, m4, m5, m6, m7, m8, m9, m10, m11, m12, m13⟩, m14, m15, m16, m17, m18, m19, m20, m21, m22⟩ : Mat).rules a b c).1.bowlers.length ≤ 1000000 := fun a b c => by
  rw [(IR (⟨⟨m0, m1, m2, m3, m4, m5, m6, m7, m8, m9, m10, m11, m12, m13⟩, m14, m15, m16, m17, m18, m19, m20, m21, m22⟩ : Mat).rules a b c).2.1, (IR (⟨⟨m0, m1, m2, m3, m4, m5, m6, m7, m8, m9, m10, m11, m12, m13⟩, m14, m15, m16, m17, m18, m19, m20, m21, m22⟩ : Mat).rules a b c).2.2]
  exact Nat.zero_le _
 have hb : UY (⟨⟨m0, m1, m2, m3, m4, m5, m6, m7, m8, m9, m10, m11, m12, m13⟩, m14, m15, m16, m17, m18, m19, m20, m21, m22⟩ : Mat) = Dq (⟨⟨m0, m1, m2, m3, m4, m5, m6, m7, m8, m9, m10, m11, m12, m13⟩, m14, m15, m16, m17, m18, m19, m20, m21, m22⟩ : Mat) (m17.length : Int) := by
  unfold UY
  rw [hv]
  have h3 : (m14 == 3) = false := by
   rw [beq_iff_eq] at hs2
   rw [hs2]; rfl
  simp only [PXb, h3, hs2]
 have ht := fun sd => vd ok hs2 sd
 simp only at ht
 simp only [PQ, IU, IB, Ws, IZ, JD, std, xOf, PXb, nW hf hN hl hs, hb]
 rcases qi (m := (⟨⟨m0, m1, m2, m3, m4, m5, m6, m7, m8, m9, m10, m11, m12, m13⟩, m14, m15, m16, m17, m18, m19, m20, m21, m22⟩ : Mat)) (ok.toss hs2) (m17.length : Int) with ho | ho
 ·simp only [PXb, PXc, ho, wr1, wr2, W2, W1, CS, Uy, Nat.reduceAdd, Int.reduceBEq, Yw, ht, PXi, IU, IB, Gd, Lc hN hl2]
  generalize hT : cond (IntKind.i64.wrap ((m17.length : Int) + 1) == IntKind.i64.wrap (2 * m2)) (IntKind.i64.wrap (IntKind.i64.wrap (A9 (⟨⟨m0, m1, m2, m3, m4, m5, m6, m7, m8, m9, m10, m11, m12, m13⟩, m14, m15, m16, m17, m18, m19, m20, m21, m22⟩ : Mat) (Bi 1) - A9 (⟨⟨m0, m1, m2, m3, m4, m5, m6, m7, m8, m9, m10, m11, m12, m13⟩, m14, m15, m16, m17, m18, m19, m20, m21, m22⟩ : Mat) 1) + 1)) 0 = T
  refine bind_ok (r := [.int T]) (by subst hT; cases IntKind.i64.wrap ((m17.length : Int) + 1) == IntKind.i64.wrap (2 * m2) <;> rfl) ?_
  simp only [PXb, PXc, PXi, PXr, Inn.eta, AX, List.length_append, List.length_cons, List.length_nil, h304, CS, Uy, Nat.reduceAdd, Int.reduceBEq, IZ, JD, gA hN hs, Zw (fb _ _ _) (wb _ _ _) hN hs h13]
  cases (Bn (⟨⟨m0, m1, m2, m3, m4, m5, m6, m7, m8, m9, m10, m11, m12, m13⟩, m14, m15, m16, m17, m18, m19, m20, m21, m22⟩ : Mat).rules 1 T m18).2 == 0 <;> try rfl
  cases (Ct (⟨⟨m0, m1, m2, m3, m4, m5, m6, m7, m8, m9, m10, m11, m12, m13⟩, m14, m15, m16, m17, m18, m19, m20, m21, m22⟩ : Mat).rules (Bn (⟨⟨m0, m1, m2, m3, m4, m5, m6, m7, m8, m9, m10, m11, m12, m13⟩, m14, m15, m16, m17, m18, m19, m20, m21, m22⟩ : Mat).rules 1 T m18).1 (⟨e0, e1, e2, e3, e4, e5, e6, ⟨e7, e8, e9, e10, e11, e12, e13, e14, e15, e16, e17, e18⟩⟩ : Ev)).2 == 0 <;> rfl
 ·simp only [PXb, PXc, ho, wr1, wr2, W2, W1, CS, Uy, Nat.reduceAdd, Int.reduceBEq, Yw, ht, PXi, IU, IB, Gd, Lc hN hl2]
  generalize hT : cond (IntKind.i64.wrap ((m17.length : Int) + 1) == IntKind.i64.wrap (2 * m2)) (IntKind.i64.wrap (IntKind.i64.wrap (A9 (⟨⟨m0, m1, m2, m3, m4, m5, m6, m7, m8, m9, m10, m11, m12, m13⟩, m14, m15, m16, m17, m18, m19, m20, m21, m22⟩ : Mat) (Bi 2) - A9 (⟨⟨m0, m1, m2, m3, m4, m5, m6, m7, m8, m9, m10, m11, m12, m13⟩, m14, m15, m16, m17, m18, m19, m20, m21, m22⟩ : Mat) 2) + 1)) 0 = T
  refine bind_ok (r := [.int T]) (by subst hT; cases IntKind.i64.wrap ((m17.length : Int) + 1) == IntKind.i64.wrap (2 * m2) <;> rfl) ?_
  simp only [PXb, PXc, PXi, PXr, Inn.eta, AX, List.length_append, List.length_cons, List.length_nil, h304, CS, Uy, Nat.reduceAdd, Int.reduceBEq, IZ, JD, gA hN hs, Zw (fb _ _ _) (wb _ _ _) hN hs h13]
  cases (Bn (⟨⟨m0, m1, m2, m3, m4, m5, m6, m7, m8, m9, m10, m11, m12, m13⟩, m14, m15, m16, m17, m18, m19, m20, m21, m22⟩ : Mat).rules 2 T m19).2 == 0 <;> try rfl
  cases (Ct (⟨⟨m0, m1, m2, m3, m4, m5, m6, m7, m8, m9, m10, m11, m12, m13⟩, m14, m15, m16, m17, m18, m19, m20, m21, m22⟩ : Mat).rules (Bn (⟨⟨m0, m1, m2, m3, m4, m5, m6, m7, m8, m9, m10, m11, m12, m13⟩, m14, m15, m16, m17, m18, m19, m20, m21, m22⟩ : Mat).rules 2 T m19).1 (⟨e0, e1, e2, e3, e4, e5, e6, ⟨e7, e8, e9, e10, e11, e12, e13, e14, e15, e16, e17, e18⟩⟩ : Ev)).2 == 0 <;> rfl
end Go.Px
end
section
namespace Go.Px
set_option maxRecDepth 100000
set_option maxHeartbeats 8000000 in
theorem uI {N : Nat} {m1 m2 m3 m4 m5 m6 m7 m9 m10 m11 m12 m14 m15 m18 m19 m20 m21 m22 : Int} {m8 m16 : Bool} {m0 : ByteArray} {m13 : Rows} {m17 : List Inn} {e0 e1 e2 e3 e5 e6 e7 e8 e9 e10 e11 e13 e14 e15 e16 e18 : Int} {e4 e12 e17 : Bool} (hN : 2097152 < N) (hf : Cw m17) (hl : m17.length ≤ 1000000) (hs : m0.size ≤ 1048576) (h13 : m13.length ≤ 1048576) (ok : MatOk (⟨⟨m0, m1, m2, m3, m4, m5, m6, m7, m8, m9, m10, m11, m12, m13⟩, m14, m15, m16, m17, m18, m19, m20, m21, m22⟩ : Mat)) (he : (evS (⟨e0, e1, e2, e3, e4, e5, e6, ⟨e7, e8, e9, e10, e11, e12, e13, e14, e15, e16, e17, e18⟩⟩ : Ev) == 0) = true) (h3 : (m14 == 3) = true) : PX N [.str m0, .int m1, .int m2, .int m3, .int m4, .int m5, .int m6, .int m7, .bool m8, .int m9, .int m10, .int m11, .int m12, .rows m13, .int m14, .int m15, .bool m16, .rows (AQ m17), .int m18, .int m19, .int m20, .int m21, .int m22, .int e0, .int e1, .int e2, .int e3, .bool e4, .int e5, .int e6, .int e7, .int e8, .int e9, .int e10, .int e11, .bool e12, .int e13, .int e14, .int e15, .int e16, .bool e17, .int e18] = some (Em (eT (⟨⟨m0, m1, m2, m3, m4, m5, m6, m7, m8, m9, m10, m11, m12, m13⟩, m14, m15, m16, m17, m18, m19, m20, m21, m22⟩ : Mat) (⟨e0, e1, e2, e3, e4, e5, e6, ⟨e7, e8, e9, e10, e11, e12, e13, e14, e15, e16, e17, e18⟩⟩ : Ev))) := by
 show Oz (std (FN N) N) (xOf _) = _
 simp only [Oz, Pw, Lr, std, xOf, PXb]
 have h0 := ok.begun h3
 have lv := Tp (ok.innv (lnx m17) (jJ h0 hl)).1
 have fl : (inn m17 (IntKind.i64.wrap ((m17.length : Int) - 1)).toNat).Fit := lv.2.2
 have wl : (inn m17 (IntKind.i64.wrap ((m17.length : Int) - 1)).toNat).before.length + (inn m17 (IntKind.i64.wrap ((m17.length : Int) - 1)).toNat).bowlers.length ≤ 1000000 := by
  have h1 := lv.1
  have h2 := lv.2.1
  change (inn m17 (IntKind.i64.wrap ((m17.length : Int) - 1)).toNat).bowlers.length ≤ 11 at h1
  change (inn m17 (IntKind.i64.wrap ((m17.length : Int) - 1)).toNat).before.length ≤ 11 at h2
  omega
 have f1 := LT (WB (⟨⟨m0, m1, m2, m3, m4, m5, m6, m7, m8, m9, m10, m11, m12, m13⟩, m14, m15, m16, m17, m18, m19, m20, m21, m22⟩ : Mat).rules (inn m17 (IntKind.i64.wrap ((m17.length : Int) - 1)).toNat) (⟨e0, e1, e2, e3, e4, e5, e6, ⟨e7, e8, e9, e10, e11, e12, e13, e14, e15, e16, e17, e18⟩⟩ : Ev)) fl (by omega)
 simp only [PXb, PXc, PXi, PXr, AX, Inn.eta, CS, Nat.reduceAdd, List.length_set, NQ h0 hl, Pw, Zw fl wl hN hs h13, eT, BZ, lnx]
 generalize hX : Ct (⟨⟨m0, m1, m2, m3, m4, m5, m6, m7, m8, m9, m10, m11, m12, m13⟩, m14, m15, m16, m17, m18, m19, m20, m21, m22⟩ : Mat).rules (inn m17 (IntKind.i64.wrap ((m17.length : Int) - 1)).toNat) (⟨e0, e1, e2, e3, e4, e5, e6, ⟨e7, e8, e9, e10, e11, e12, e13, e14, e15, e16, e17, e18⟩⟩ : Ev) = X at f1
 have fy := T7 (IntKind.i64.wrap ((m17.length : Int) - 1)).toNat hf f1
 generalize hy : m17.set (IntKind.i64.wrap ((m17.length : Int) - 1)).toNat X.1 = ys at fy
 have ly : ys.length = m17.length := by rw [← hy, List.length_set]
 cases X.2 == 0 <;> try rfl
 cases h13k : e0 == 13
 case false => rfl
 cases hsd : e1 == X.1.side
 case true => rfl
 simp only [PXb, Option.bind_assoc]
 have e0w : IntKind.i64.wrap ((m17.length : Int) - 1) = (m17.length : Int) - 1 - ((0 : Nat) : Int) := by
  rw [beq_eq_false_iff_ne] at h0
  rw [EZ (by omega) (by omega)]; omega
 rw [e0w]
 have hside := mt (e := (⟨e0, e1, e2, e3, e4, e5, e6, ⟨e7, e8, e9, e10, e11, e12, e13, e14, e15, e16, e17, e18⟩⟩ : Ev)) he h13k
 simp only at hside
 refine AK (ZL (len := m17.length) (fun j => [.int ((m17.length : Int) - 1 - (j : Int))]) (fun j => cond ((inn ys (m17.length - 1 - j)).side == e1) (some [PV.int 0, PV.str m0, PV.int m1, PV.int m2, PV.int m3, PV.int m4, PV.int m5, PV.int m6, PV.int m7, PV.bool m8, PV.int m9, PV.int m10, PV.int m11, PV.int m12, PV.rows m13, PV.int m14, PV.int m15, PV.bool m16, PV.rows (AQ (ys.set (m17.length - 1 - j) (Oo (inn ys (m17.length - 1 - j))))), PV.int m18, PV.int m19, PV.int m20, PV.int m21, PV.int m22]) none) ?_ ?_ m17.length 0 N (by omega) (by omega)) ?_
 ·intro self
  have q1 : iLe 0 ((m17.length : Int) - 1 - (m17.length : Int)) = false := by simp only [iLe, decide_eq_false_iff_not]; omega
  simp only [PXb, q1]
 ·intro i self hi
  have q1 : iLe 0 ((m17.length : Int) - 1 - (i : Int)) = true := by simp only [iLe, decide_eq_true_eq]; omega
  have q2 : iIn ((m17.length : Int) - 1 - (i : Int)) (m17.length : Int) = true := by simp only [iIn, decide_eq_true_eq]; omega
  have q3 : ((m17.length : Int) - 1 - (i : Int)).toNat = m17.length - 1 - i := by omega
  have q4 : IntKind.i64.wrap ((m17.length : Int) - 1 - (i : Int) - 1) = (m17.length : Int) - 1 - ((i + 1 : Nat) : Int) := by rw [EZ (by omega) (by omega)]; omega
  have q5 := fy (m17.length - 1 - i) (by omega)
  simp only [PXb, PXc, q1, q2, q3, q4, Lr, aM q5, PXm]
  cases (inn ys (m17.length - 1 - i)).side == e1 <;> rfl
 ·have hfa := mK ys e1 (fun k => [PV.int 0, PV.str m0, PV.int m1, PV.int m2, PV.int m3, PV.int m4, PV.int m5, PV.int m6, PV.int m7, PV.bool m8, PV.int m9, PV.int m10, PV.int m11, PV.int m12, PV.rows m13, PV.int m14, PV.int m15, PV.bool m16, PV.rows (AQ (ys.set k (Oo (inn ys k)))), PV.int m18, PV.int m19, PV.int m20, PV.int m21, PV.int m22]) m17.length m17.length (Nat.le_refl _)
  rw [Nat.sub_self] at hfa
  rw [hfa]
  unfold Ly
  simp only [ly]
  cases S7 ys e1 m17.length with
  | some k => rfl
  | none =>
   rcases hside with h | h <;> subst h
   ·simp only [Option.map_none, Th, PXb, PXc, CS, Int.reduceBEq, wr1, W2]
    rfl
   ·simp only [Option.map_none, Th, PXb, PXc, CS, Int.reduceBEq, wr2, W1]
    rfl
set_option maxHeartbeats 4000000 in
theorem vB {N : Nat} {m1 m2 m3 m4 m5 m6 m7 m9 m10 m11 m12 m14 m15 m18 m19 m20 m21 m22 : Int} {m8 m16 : Bool} {m0 : ByteArray} {m13 : Rows} {m17 : List Inn} {e0 e1 e2 e3 e5 e6 e7 e8 e9 e10 e11 e13 e14 e15 e16 e18 : Int} {e4 e12 e17 : Bool} (hN : 2097152 < N) (hf : Cw m17) (hl : m17.length ≤ 1000000) (hs : m0.size ≤ 1048576) (h13 : m13.length ≤ 1048576) (ok : MatOk (⟨⟨m0, m1, m2, m3, m4, m5, m6, m7, m8, m9, m10, m11, m12, m13⟩, m14, m15, m16, m17, m18, m19, m20, m21, m22⟩ : Mat)) (hv : Cm (⟨⟨m0, m1, m2, m3, m4, m5, m6, m7, m8, m9, m10, m11, m12, m13⟩, m14, m15, m16, m17, m18, m19, m20, m21, m22⟩ : Mat) = true) (he : (evS (⟨e0, e1, e2, e3, e4, e5, e6, ⟨e7, e8, e9, e10, e11, e12, e13, e14, e15, e16, e17, e18⟩⟩ : Ev) == 0) = true) : RT N [.str m0, .int m1, .int m2, .int m3, .int m4, .int m5, .int m6, .int m7, .bool m8, .int m9, .int m10, .int m11, .int m12, .rows m13, .int m14, .int m15, .bool m16, .rows (AQ m17), .int m18, .int m19, .int m20, .int m21, .int m22, .int e0, .int e1, .int e2, .int e3, .bool e4, .int e5, .int e6, .int e7, .int e8, .int e9, .int e10, .int e11, .bool e12, .int e13, .int e14, .int e15, .int e16, .bool e17, .int e18] = some (Em (H9 (⟨⟨m0, m1, m2, m3, m4, m5, m6, m7, m8, m9, m10, m11, m12, m13⟩, m14, m15, m16, m17, m18, m19, m20, m21, m22⟩ : Mat) (⟨e0, e1, e2, e3, e4, e5, e6, ⟨e7, e8, e9, e10, e11, e12, e13, e14, e15, e16, e17, e18⟩⟩ : Ev))) := by
 show RX (std (Ey N) N) (xOf _) = _
 simp only [RX, P1, RN, Ry, std, xOf, PXb]
 unfold H9
 cases hk1 : e0 == 1
 case true =>
  simp only [PXb, P1, Gd]
  cases m14 == 1 <;> cases e4 <;> rfl
 cases hk2 : e0 == 2
 case true =>
  simp only [PXb]
  cases hs2 : m14 == 2
  case false => rfl
  simp only [PXb, RN, tA hN hf hl hs h13 ok hv hs2]
  rfl
 cases hk3 : e0 == 12
 case true =>
  simp only [PXb]
  cases m14 == 4 <;> cases e1 == m15 <;> rfl
 cases hk4 : e0 == 16
 case true =>
  simp only [PXb, oQ, YX]
  cases h3 : m14 == 3
  case false =>
   simp only [PXb, PXc, PXi, PXr, CS, Nat.reduceAdd]
   cases m3 == 0 <;> rfl
  simp only [PXb, PXc, PXi, PXr, CS, Nat.reduceAdd, NQ (ok.begun h3) hl]
  cases m3 == 0 <;> rfl
 simp only [PXb]
 cases h3 : m14 == 3
 case false => rfl
 simp only [PXb, Ry, uI hN hf hl hs h13 ok he h3]
 rfl
theorem pZ {N : Nat} {m1 m2 m3 m4 m5 m6 m7 m9 m10 m11 m12 m14 m15 m18 m19 m20 m21 m22 : Int} {m8 m16 : Bool} {m0 : ByteArray} {m13 : Rows} {m17 : List Inn} (hf : Cw m17) (hN : 2097152 < N) (hl : m17.length ≤ 1000000) (hs : m0.size ≤ 1048576) (h0 : ((m17.length : Int) == 0) = false) : KS N [.str m0, .int m1, .int m2, .int m3, .int m4, .int m5, .int m6, .int m7, .bool m8, .int m9, .int m10, .int m11, .int m12, .rows m13, .int m14, .int m15, .bool m16, .rows (AQ m17), .int m18, .int m19, .int m20, .int m21, .int m22] = some (QA (⟨⟨m0, m1, m2, m3, m4, m5, m6, m7, m8, m9, m10, m11, m12, m13⟩, m14, m15, m16, m17, m18, m19, m20, m21, m22⟩ : Mat)).ls := by
 show Jy (std (CO N) N) (xOf _) = _
 have hl5 : m17.length ≤ 1048576 := by omega
 simp only [Jy, X8, Wx, Wo, UV, std, xOf, PXb, Sv h0 hl, Gd, Lc hN hl5, nH hf hN hl hs, PXi]
 unfold QA
 simp only [A9, BZ, lnx, PXm]
 cases hq1 : ((m17.length : Int) == IntKind.i64.wrap (2 * m2))
 case true => rfl
 cases hq2 : ((m17.length : Int) == 3)
 case true =>
  simp only [PXb]
  cases iLt (Gc m17 (inn m17 (IntKind.i64.wrap ((m17.length : Int) - 1)).toNat).side m17.length) (Gc m17 (Bi (inn m17 (IntKind.i64.wrap ((m17.length : Int) - 1)).toNat).side) m17.length)
  case true => rfl
  simp only [PXb]
  cases ((m17.length : Int) == 2) <;> cases iLt 0 m10 <;> try rfl
  simp only [PXb]
  cases iLe m10 (IntKind.i64.wrap (Gc m17 m15 m17.length - Gc m17 (Bi m15) m17.length)) <;> rfl
 simp only [PXb]
 cases ((m17.length : Int) == 2) <;> cases iLt 0 m10 <;> try rfl
 simp only [PXb]
 cases iLe m10 (IntKind.i64.wrap (Gc m17 m15 m17.length - Gc m17 (Bi m15) m17.length)) <;> rfl
set_option maxHeartbeats 4000000 in
theorem uZ {N : Nat} {m1 m2 m3 m4 m5 m6 m7 m9 m10 m11 m12 m14 m15 m18 m19 m20 m21 m22 : Int} {m8 m16 : Bool} {m0 : ByteArray} {m13 : Rows} {m17 : List Inn} {e0 e1 e2 e3 e5 e6 e7 e8 e9 e10 e11 e13 e14 e15 e16 e18 : Int} {e4 e12 e17 : Bool} (hN : 2097152 < N) (hf : Cw m17) (hl : m17.length ≤ 1000000) (hs : m0.size ≤ 1048576) (h13 : m13.length ≤ 1048576) : OS N [.str m0, .int m1, .int m2, .int m3, .int m4, .int m5, .int m6, .int m7, .bool m8, .int m9, .int m10, .int m11, .int m12, .rows m13, .int m14, .int m15, .bool m16, .rows (AQ m17), .int m18, .int m19, .int m20, .int m21, .int m22, .int e0, .int e1, .int e2, .int e3, .bool e4, .int e5, .int e6, .int e7, .int e8, .int e9, .int e10, .int e11, .bool e12, .int e13, .int e14, .int e15, .int e16, .bool e17, .int e18] = some (Em (CQ (⟨⟨m0, m1, m2, m3, m4, m5, m6, m7, m8, m9, m10, m11, m12, m13⟩, m14, m15, m16, m17, m18, m19, m20, m21, m22⟩ : Mat) (⟨e0, e1, e2, e3, e4, e5, e6, ⟨e7, e8, e9, e10, e11, e12, e13, e14, e15, e16, e17, e18⟩⟩ : Ev))) := by
 show OA (std (CF N) N) (xOf _) = _
 generalize hres : (some (Em (CQ (⟨⟨m0, m1, m2, m3, m4, m5, m6, m7, m8, m9, m10, m11, m12, m13⟩, m14, m15, m16, m17, m18, m19, m20, m21, m22⟩ : Mat) (⟨e0, e1, e2, e3, e4, e5, e6, ⟨e7, e8, e9, e10, e11, e12, e13, e14, e15, e16, e17, e18⟩⟩ : Ev))) : Option (List PV)) = RR
 simp only [OA, Ok, ZV, Zq, RL, Po, M6, std, xOf, PXb, XT hf hN hl hs, gY, gW hf hN hl h13]
 subst hres; simp only [CQ]
 cases hv : Cm (⟨⟨m0, m1, m2, m3, m4, m5, m6, m7, m8, m9, m10, m11, m12, m13⟩, m14, m15, m16, m17, m18, m19, m20, m21, m22⟩ : Mat)
 case false => rfl
 cases he : evS (⟨e0, e1, e2, e3, e4, e5, e6, ⟨e7, e8, e9, e10, e11, e12, e13, e14, e15, e16, e17, e18⟩⟩ : Ev) == 0
 case false => simp only [PXb, he]; rfl
 simp only [PXb, he]
 cases h5 : m14 == 5
 case true => rfl
 have ok := dW hv
 simp only [PXb, PXc, CS, Nat.reduceAdd, Ok, gW hf hN hl h13, RL, vB hN hf hl hs h13 ok hv he]
 have ak := pe ok (⟨e0, e1, e2, e3, e4, e5, e6, ⟨e7, e8, e9, e10, e11, e12, e13, e14, e15, e16, e17, e18⟩⟩ : Ev)
 generalize H9 (⟨⟨m0, m1, m2, m3, m4, m5, m6, m7, m8, m9, m10, m11, m12, m13⟩, m14, m15, m16, m17, m18, m19, m20, m21, m22⟩ : Mat) (⟨e0, e1, e2, e3, e4, e5, e6, ⟨e7, e8, e9, e10, e11, e12, e13, e14, e15, e16, e17, e18⟩⟩ : Ev) = A at ak
 obtain ⟨⟨⟨a0, a1, a2, a3, a4, a5, a6, a7, a8, a9, a10, a11, a12, a13⟩, a14, a15, a16, a17, a18, a19, a20, a21, a22⟩, l⟩ := A
 obtain ⟨k1, k2, k3, k4⟩ := ak
 simp only at k1 k2 k3 k4
 have hl5 : a17.length ≤ 1000000 := by omega
 have hs5 : a0.size ≤ 1048576 := by
  have := congrArg Rul.name k1
  simp only at this
  rw [this]; exact hs
 simp only [PXb, PXc, PXk, PXi, CS, Nat.reduceAdd]
 cases hl0 : l == 0
 case false => rfl
 simp only [PXb, N4]
 cases h3 : a14 == 3
 case false => rfl
 have h0 := k4 hl0 h3
 simp only [PXb, PXc, PXi, Po, Sv h0 hl5, BZ, M6, pZ k2 hN hl5 hs5 h0, PXm]
 cases (inn a17 (lnx a17)).ending == 0 <;> rfl
end Go.Px
end
section
namespace Go.Px
set_option maxRecDepth 100000
theorem rF (m : Mat) : (QA m).rules = m.rules ∧ (QA m).inns = m.inns := by
 unfold QA
 dsimp only
 cases ((m.inns.length : Int) == IntKind.i64.wrap (2 * m.rules.innings) || ((m.inns.length : Int) == 3 && iLt (A9 m (BZ m).side) (A9 m (Bi (BZ m).side)))) with
 | true => exact ⟨rfl, rfl⟩
 | false =>
  cases ((m.inns.length : Int) == 2 && iLt 0 m.rules.followon && iLe m.rules.followon (IntKind.i64.wrap (A9 m m.first - A9 m (Bi m.first)))) <;> exact ⟨rfl, rfl⟩
theorem jI (m : Mat) : (N4 m).rules = m.rules ∧ (N4 m).inns = m.inns := by
 unfold N4
 cases (m.stage == 3 && !((BZ m).ending == 0)) with
 | true => exact rF m
 | false => exact ⟨rfl, rfl⟩
structure StepOk (r : Rul) (m : Mat) : Prop where
 rules : m.rules = r
 fit : Cw m.inns
 len : m.inns.length ≤ 5
theorem Za {r : Rul} {m : Mat} (h : StepOk r m) (e : Ev) : StepOk r (CQ m e).1 := by
 unfold CQ
 cases hv : Cm m with
 | false => exact h
 | true =>
  cases he : evS e == 0 with
  | false => exact h
  | true =>
   cases h5 : m.stage == 5 with
   | true => exact h
   | false =>
    have a := pe (dW hv) e
    cases hx : (H9 m e).2 == 0 with
    | false => exact h
    | true =>
     have k := jI (H9 m e).1
     exact ⟨k.1.trans (a.rules.trans h.rules), by show Cw (N4 _).inns; rw [k.2]; exact a.fit, by show (N4 _).inns.length ≤ 5; rw [k.2]; exact a.len⟩
theorem eZ (r : Rul) (h : ((Bf r).2 == 0) = true) : StepOk r (Bf r).1 := by
 unfold Bf at h ⊢
 cases hc : Ax r == 0 with
 | false => rw [hc] at h; exact absurd (show (Ax r == 0) = true from h) (by rw [hc]; decide)
 | true => exact ⟨rfl, fun i hi => absurd hi (Nat.not_lt_zero i), Nat.zero_le _⟩
theorem wW {m : Mat} {e : Ev} (h : ((CQ m e).2 == 0) = true) : Cm m = true ∧ (evS e == 0) = true ∧ (m.stage == 5) = false ∧ ((H9 m e).2 == 0) = true ∧ (CQ m e).1 = N4 (H9 m e).1 := by
 unfold CQ at h ⊢
 cases hv : Cm m with
 | false => rw [hv] at h; exact absurd (show ((1 : Int) == 0) = true from h) (by decide)
 | true =>
  cases he : evS e == 0 with
  | false => rw [hv, he] at h; exact absurd (show ((1 : Int) == 0) = true from h) (by decide)
  | true =>
   cases h5 : m.stage == 5 with
   | true => rw [hv, he, h5] at h; exact absurd (show ((26 : Int) == 0) = true from h) (by decide)
   | false =>
    cases hx : (H9 m e).2 == 0 with
    | false => rw [hv, he, h5, hx] at h; exact absurd (show ((H9 m e).2 == 0) = true from h) (by rw [hx]; decide)
    | true => exact ⟨rfl, rfl, rfl, rfl, rfl⟩
theorem sZ {m : Mat} {e : Ev} (h : ((CQ m e).2 == 0) = true) (hk : (e.kind == 4) = true) : (m.stage == 3) = true ∧ ((m.inns.length : Int) == 0) = false ∧ ((Ct m.rules (BZ m) e).2 == 0) = true ∧ (CQ m e).1.inns = m.inns.set (lnx m.inns) (Ct m.rules (BZ m) e).1 := by
 obtain ⟨hv, he, h5, ha, hs⟩ := wW h
 have hk4 := beq_iff_eq.1 hk
 rw [hs, (jI _).2]
 unfold H9 at ha ⊢
 simp only [hk4, Int.reduceBEq, cond_false] at ha ⊢
 cases h3 : m.stage == 3 with
 | false => rw [h3] at ha; exact absurd (show ((1 : Int) == 0) = true from ha) (by decide)
 | true =>
  rw [h3] at ha
  simp only [Bool.not_true, cond_false] at ha ⊢
  unfold eT at ha ⊢
  cases hq : (Ct m.rules (BZ m) e).2 == 0 with
  | false => simp only [hq, Bool.not_false, cond_true] at ha; exact absurd ha Bool.false_ne_true
  | true =>
   simp only [hk4, Int.reduceBEq, Bool.false_and, hq, Bool.not_true, cond_false]
   exact ⟨trivial, (dW hv).begun h3, trivial, trivial⟩
theorem ja (b : ByteArray) : (b.toList == b.toList) = true := beq_self_eq_true _
theorem j8 {N : Nat} {r1 r2 r3 r4 r5 r6 r7 r9 r10 r11 r12 : Int} {r8 : Bool} {r0 : ByteArray} {r13 : Rows} (hN : 2097152 < N) (h13 : r13.length ≤ 1048576) : OC N [.str r0, .int r1, .int r2, .int r3, .int r4, .int r5, .int r6, .int r7, .bool r8, .int r9, .int r10, .int r11, .int r12, .rows r13, .str r0, .int r1, .int r2, .int r3, .int r4, .int r5, .int r6, .int r7, .bool r8, .int r9, .int r10, .int r11, .int r12, .rows r13] = some [.bool true] := by
 show Td (std (cu N) N) (xOf _) = _
 simp only [Td, std, xOf, PXb, PXm]
 refine AK (Dg (len := r13.length) (fun i => [.int (i : Int)]) [.int 1] ?_ ?_ N (by omega)) ?_
 ·intro self
  simp only [PXb, PXc, PXn, AA, Aj]
 ·intro i self hi
  simp only [PXb, PXc, PXn, PXm, Nat.reduceAdd, Int.reduceBEq, AN (show i ≤ 1099511627776 by omega), Ae hi, AP hi]
  rfl
 ·simp only [PXb, PXc, PXn, PXm, Nat.reduceAdd, Int.reduceBEq, ja]
theorem TO {N : Nat} {L : Rows} (hN : 2097152 < N) (h13 : L.length ≤ 1048576) : C9 N [.rows L, .rows L] = some [.bool true] := by
 show En (std (Ld N) N) (xOf _) = _
 simp only [En, std, xOf, PXb, PXm]
 refine AK (Dg (len := L.length) (fun i => [.int (i : Int)]) [.int 1] ?_ ?_ N (by omega)) ?_
 ·intro self
  simp only [PXb, PXc, PXn, AA, Aj]
 ·intro i self hi
  simp only [PXb, PXc, PXn, PXm, Nat.reduceAdd, Int.reduceBEq, AN (show i ≤ 1099511627776 by omega), Ae hi, AP hi]
  rfl
 ·simp only [PXb, PXc, PXn, PXm, Nat.reduceAdd, Int.reduceBEq]
theorem kZ {N : Nat} {r1 r2 r3 r4 r5 r6 r7 r9 r10 r11 r12 : Int} {r8 : Bool} {r0 : ByteArray} {r13 : Rows}  : GM N [.str r0, .int r1, .int r2, .int r3, .int r4, .int r5, .int r6, .int r7, .bool r8, .int r9, .int r10, .int r11, .int r12, .rows r13] = some [.int r1, .int r2, .int r3, .int r4, .int r5, .int r6, .int r7, .int r9, .int r10, .int r11, .int r12] := by
 show JW (std (Su N) N) (xOf _) = _
 simp only [JW, std, xOf, PXb, PXc, PXn, PXm, Nat.reduceAdd, Int.reduceBEq]
theorem eg {N : Nat} {r1 r2 r3 r4 r5 r6 r7 r9 r10 r11 r12 : Int} {r8 : Bool} {r0 : ByteArray} {r13 : Rows} (hN : 2097152 < N) (h13 : r13.length ≤ 1048576) : Oh N [.str r0, .int r1, .int r2, .int r3, .int r4, .int r5, .int r6, .int r7, .bool r8, .int r9, .int r10, .int r11, .int r12, .rows r13, .str r0, .int r1, .int r2, .int r3, .int r4, .int r5, .int r6, .int r7, .bool r8, .int r9, .int r10, .int r11, .int r12, .rows r13] = some [.bool true] := by
 show PZ (std (Kz N) N) (xOf _) = _
 simp only [PZ, R0, NZ, std, xOf, PXb, PXc, PXn, PXm, Nat.reduceAdd, Int.reduceBEq, ja, kZ, TO hN h13]
end Go.Px
end
section
namespace Go.Px
set_option maxRecDepth 100000
def evR (L : Rows) (i : Nat) : Ev := ⟨atI L i 0, atI L i 1, atI L i 2, atI L i 3, atB L i 4, atI L i 5, atI L i 6, ⟨atI L i 7, atI L i 8, atI L i 9, atI L i 10, atI L i 11, atB L i 12, atI L i 13, atI L i 14, atI L i 15, atI L i 16, atB L i 17, atI L i 18⟩⟩
theorem so (L : Rows) (i : Nat) : (⟨atI L i 0, atI L i 1, atI L i 2, atI L i 3, atB L i 4, atI L i 5, atI L i 6, ⟨atI L i 7, atI L i 8, atI L i 9, atI L i 10, atI L i 11, atB L i 12, atI L i 13, atI L i 14, atI L i 15, atI L i 16, atB L i 17, atI L i 18⟩⟩ : Ev) = evR L i := rfl
def Av (i : Int) (m : Mat) (e : Ev) : Mat × Int := cond (iLe 4000 i) (m, 26) (CQ m e)
def BU (L : Rows) : Nat → Nat → Mat → Mat × Int × Int
 | 0, _, m => (m, -1, 0)
 | k + 1, i, m => cond (!((Av i m (evR L i)).2 == 0)) (m, (i : Int), (Av i m (evR L i)).2) (BU L k (i + 1) (Av i m (evR L i)).1)
def jw (i : Int) (m t : Mat) (d : Del) : List PV :=
 [.int i, .int (IntKind.i64.wrap ((m.inns.length : Int) - 1)), .int (BZ m).complete, .int (BZ m).inover, .int (BZ m).bowler, .int (BZ m).striker, .int (BZ m).other, .bool (BZ m).freehit,
  .int d.type, .int d.source, .int d.runs, .int d.short, .int d.boundary, .bool d.crossed, .int d.how, .int d.victim, .int d.fielder, .int d.second, .bool d.sub, .int d.sector,
  .int (BC m.rules d).batter, .int (BC m.rules d).wides, .int (BC m.rules d).noballs, .int (BC m.rules d).byes, .int (BC m.rules d).legbyes, .int (BC m.rules d).bowler, .bool (BC m.rules d).counts, .bool (BC m.rules d).faced, .bool (BC m.rules d).wicket, .bool (BC m.rules d).swap,
  .int (inn t.inns (lnx m.inns)).runs, .int (inn t.inns (lnx m.inns)).wickets]
def WW (L : Rows) : Nat → Nat → Mat → Rows → Rows
 | 0, _, _, out => out
 | k + 1, i, m, out => cond (!((Av i m (evR L i)).2 == 0)) out (WW L k (i + 1) (Av i m (evR L i)).1 (cond ((evR L i).kind == 4) (out ++ [jw i m (Av i m (evR L i)).1 (evR L i).ball]) out))
def TH (f : Mat × Int × Int) : List PV := [.str f.1.rules.name, .int f.1.rules.side, .int f.1.rules.innings, .int f.1.rules.overs, .int f.1.rules.balls, .int f.1.rules.quota, .int f.1.rules.wide, .int f.1.rules.noball, .bool f.1.rules.freehit, .int f.1.rules.newball, .int f.1.rules.followon, .int f.1.rules.reviews, .int f.1.rules.outside, .rows f.1.rules.power, .int f.1.stage, .int f.1.first, .bool f.1.follow, .rows (AQ f.1.inns), .int f.1.pen1, .int f.1.pen2, .int f.1.win, .int f.1.wside, .int f.1.margin, .int f.2.1, .int f.2.2]
def BQ (r : Rul) (L : Rows) : Mat × Int × Int := cond (!((Bf r).2 == 0)) (WD, 0, 1) (BU L L.length 0 (Bf r).1)
def lP (r : Rul) (L : Rows) : Rows := cond (!((Bf r).2 == 0)) [] (WW L L.length 0 (Bf r).1 [])
theorem ic (L : Rows) : ∀ k i m, ((BU L k i m).2.1 == -1) = true → (BU L k i m).2.2 = 0
 | 0, _, _, _ => rfl
 | k + 1, i, m, h => by
  unfold BU at h ⊢
  cases hq : (Av i m (evR L i)).2 == 0 with
  | false =>
   rw [hq] at h
   have := beq_iff_eq.1 (show ((i : Int) == -1) = true from h)
   omega
  | true => rw [hq] at h; exact ic L k (i + 1) _ h
theorem ik {r : Rul} {m : Mat} (h : StepOk r m) (i : Int) (e : Ev) : StepOk r (Av i m e).1 := by
 unfold Av
 cases iLe 4000 i with
 | true => exact h
 | false => exact Za h e
theorem ux {m : Mat} {i : Int} {e : Ev} (h : ((Av i m e).2 == 0) = true) : Av i m e = CQ m e ∧ iLe 4000 i = false := by
 unfold Av at h ⊢
 cases h4 : iLe 4000 i with
 | true => rw [h4] at h; exact absurd (show ((26 : Int) == 0) = true from h) (by decide)
 | false => exact ⟨rfl, rfl⟩
theorem sY {N : Nat} {m1 m2 m3 m4 m5 m6 m7 m9 m10 m11 m12 m14 m15 m18 m19 m20 m21 m22 : Int} {m8 m16 : Bool} {m0 : ByteArray} {m13 : Rows} {m17 : List Inn} {i : Int} {e0 e1 e2 e3 e5 e6 e7 e8 e9 e10 e11 e13 e14 e15 e16 e18 : Int} {e4 e12 e17 : Bool} (hN : 2097152 < N) (hf : Cw m17) (hl : m17.length ≤ 1000000) (hs : m0.size ≤ 1048576) (h13 : m13.length ≤ 1048576) : PT N [.str m0, .int m1, .int m2, .int m3, .int m4, .int m5, .int m6, .int m7, .bool m8, .int m9, .int m10, .int m11, .int m12, .rows m13, .int m14, .int m15, .bool m16, .rows (AQ m17), .int m18, .int m19, .int m20, .int m21, .int m22, .int i, .int e0, .int e1, .int e2, .int e3, .bool e4, .int e5, .int e6, .int e7, .int e8, .int e9, .int e10, .int e11, .bool e12, .int e13, .int e14, .int e15, .int e16, .bool e17, .int e18] = some (Em (Av i (⟨⟨m0, m1, m2, m3, m4, m5, m6, m7, m8, m9, m10, m11, m12, m13⟩, m14, m15, m16, m17, m18, m19, m20, m21, m22⟩ : Mat) (⟨e0, e1, e2, e3, e4, e5, e6, ⟨e7, e8, e9, e10, e11, e12, e13, e14, e15, e16, e17, e18⟩⟩ : Ev))) := by
 show PI (std (HA N) N) (xOf _) = _
 generalize hres : (some (Em (Av i (⟨⟨m0, m1, m2, m3, m4, m5, m6, m7, m8, m9, m10, m11, m12, m13⟩, m14, m15, m16, m17, m18, m19, m20, m21, m22⟩ : Mat) (⟨e0, e1, e2, e3, e4, e5, e6, ⟨e7, e8, e9, e10, e11, e12, e13, e14, e15, e16, e17, e18⟩⟩ : Ev))) : Option (List PV)) = RR
 simp only [PI, Xh, std, xOf, PXb, Uf hN hf hl hs h13]
 subst hres; simp only [Av]
 cases iLe 4000 i <;> rfl
theorem kz {N : Nat} {i : Int} {m1 m2 m3 m4 m5 m6 m7 m9 m10 m11 m12 m14 m15 m18 m19 m20 m21 m22 : Int} {m8 m16 : Bool} {m0 : ByteArray} {m13 : Rows} {m17 : List Inn} {t1 t2 t3 t4 t5 t6 t7 t9 t10 t11 t12 t14 t15 t18 t19 t20 t21 t22 : Int} {t8 t16 : Bool} {t0 : ByteArray} {t13 : Rows} {t17 : List Inn} {d0 d1 d2 d3 d4 d6 d7 d8 d9 d11 : Int} {d5 d10 : Bool} (h1 : iIn (IntKind.i64.wrap ((m17.length : Int) - 1)) (m17.length : Int) = true) (h2 : iIn (IntKind.i64.wrap ((m17.length : Int) - 1)) (t17.length : Int) = true) : JZ N [.int i, .str m0, .int m1, .int m2, .int m3, .int m4, .int m5, .int m6, .int m7, .bool m8, .int m9, .int m10, .int m11, .int m12, .rows m13, .int m14, .int m15, .bool m16, .rows (AQ m17), .int m18, .int m19, .int m20, .int m21, .int m22, .str t0, .int t1, .int t2, .int t3, .int t4, .int t5, .int t6, .int t7, .bool t8, .int t9, .int t10, .int t11, .int t12, .rows t13, .int t14, .int t15, .bool t16, .rows (AQ t17), .int t18, .int t19, .int t20, .int t21, .int t22, .int d0, .int d1, .int d2, .int d3, .int d4, .bool d5, .int d6, .int d7, .int d8, .int d9, .bool d10, .int d11] = some (jw i (⟨⟨m0, m1, m2, m3, m4, m5, m6, m7, m8, m9, m10, m11, m12, m13⟩, m14, m15, m16, m17, m18, m19, m20, m21, m22⟩ : Mat) (⟨⟨t0, t1, t2, t3, t4, t5, t6, t7, t8, t9, t10, t11, t12, t13⟩, t14, t15, t16, t17, t18, t19, t20, t21, t22⟩ : Mat) (⟨d0, d1, d2, d3, d4, d5, d6, d7, d8, d9, d10, d11⟩ : Del)) := by
 show JO (std (LF N) N) (xOf _) = _
 simp only [JO, NX, std, xOf, PXb, PXi, h1, h2, Si]
 rfl
def U3 (L : Rows) (i : Nat) (m : Mat) : List PV ⊕ Mat := cond (!((Av i m (evR L i)).2 == 0)) (.inl (.int 0 :: .int i :: .int (Av i m (evR L i)).2 :: m.ls)) (.inr (Av i m (evR L i)).1)
def un (f : Mat × Int × Int) : List PV := cond (f.2.1 == -1) (.int 1 :: f.1.ls) (.int 0 :: .int f.2.1 :: .int f.2.2 :: f.1.ls)
theorem ml (L : Rows) : ∀ k i m, KY (U3 L) (fun m => .int 1 :: m.ls) k i m = un (BU L k i m)
 | 0, _, _ => rfl
 | k + 1, i, m => by
  simp only [KY, U3, BU]
  cases (Av i m (evR L i)).2 == 0 with
  | false =>
   simp only [Bool.not_false, cond_true, un]
   rw [show ((i : Int) == -1) = false from beq_false_of_ne (show (i : Int) ≠ -1 by omega)]
   rfl
  | true => exact ml L k (i + 1) _
set_option maxHeartbeats 4000000 in
theorem sn {N : Nat} {m1 m2 m3 m4 m5 m6 m7 m9 m10 m11 m12 m14 m15 m18 m19 m20 m21 m22 : Int} {m8 m16 : Bool} {m0 : ByteArray} {m13 : Rows} {m17 : List Inn} {L : Rows} (hN : 2097152 < N) (hf : Cw m17) (hl : m17.length ≤ 5) (hs : m0.size ≤ 1048576) (h13 : m13.length ≤ 1048576) (hL : L.length ≤ 1048576) : N5 N [.str m0, .int m1, .int m2, .int m3, .int m4, .int m5, .int m6, .int m7, .bool m8, .int m9, .int m10, .int m11, .int m12, .rows m13, .int m14, .int m15, .bool m16, .rows (AQ m17), .int m18, .int m19, .int m20, .int m21, .int m22, .rows L] = some (TH (BU L L.length 0 (⟨⟨m0, m1, m2, m3, m4, m5, m6, m7, m8, m9, m10, m11, m12, m13⟩, m14, m15, m16, m17, m18, m19, m20, m21, m22⟩ : Mat))) := by
  show Of (std (Ha N) N) (xOf _) = _
  generalize hres : (some (TH (BU L L.length 0 (⟨⟨m0, m1, m2, m3, m4, m5, m6, m7, m8, m9, m10, m11, m12, m13⟩, m14, m15, m16, m17, m18, m19, m20, m21, m22⟩ : Mat))) : Option (List PV)) = RR
  simp only [Of, Pv, std, xOf, PXb]
  subst hres
  refine AK (NB (St := Mat) (len := L.length) (enc := fun i m => [.int (i : Int), .str m.rules.name, .int m.rules.side, .int m.rules.innings, .int m.rules.overs, .int m.rules.balls, .int m.rules.quota, .int m.rules.wide, .int m.rules.noball, .bool m.rules.freehit, .int m.rules.newball, .int m.rules.followon, .int m.rules.reviews, .int m.rules.outside, .rows m.rules.power, .int m.stage, .int m.first, .bool m.follow, .rows (AQ m.inns), .int m.pen1, .int m.pen2, .int m.win, .int m.wside, .int m.margin])
    (body := U3 L) (fin := fun m => .int 1 :: m.ls) (fun _ m => StepOk (⟨m0, m1, m2, m3, m4, m5, m6, m7, m8, m9, m10, m11, m12, m13⟩ : Rul) m) ?_ ?_ L.length 0 (⟨⟨m0, m1, m2, m3, m4, m5, m6, m7, m8, m9, m10, m11, m12, m13⟩, m14, m15, m16, m17, m18, m19, m20, m21, m22⟩ : Mat) N (by omega) (by omega) ⟨rfl, hf, hl⟩) ?_
  · intro m self _
    simp only [PXb, PXc, PXn, AA, Aj]
    rfl
  · intro i m self hi ok
    obtain ⟨⟨a0, a1, a2, a3, a4, a5, a6, a7, a8, a9, a10, a11, a12, a13⟩, a14, a15, a16, a17, a18, a19, a20, a21, a22⟩ := m
    have o1 := ok.rules
    have o2 := ok.fit
    have o3 := ok.len
    simp only at o1 o2 o3
    cases o1
    have kp := ik ok (i : Int) (evR L i)
    refine ⟨?_, ?_⟩
    · simp only [PXb, PXc, PXn, AA, AN (show i ≤ 1099511627776 by omega), Ae hi, AP hi, Pv, uZ hN o2 (show a17.length ≤ 1000000 by omega) hs h13, A2, YC, Nat.reduceAdd, PXk, PXc, so]
      unfold U3 Av
      cases iLe 4000 (i : Int)
      case true => rfl
      simp only [cond_false]
      cases (CQ (⟨⟨m0, m1, m2, m3, m4, m5, m6, m7, m8, m9, m10, m11, m12, m13⟩, a14, a15, a16, a17, a18, a19, a20, a21, a22⟩ : Mat) (evR L i)).2 == 0 <;> rfl
    · intro s' h
      unfold U3 at h
      cases hq : (Av (i : Int) (⟨⟨m0, m1, m2, m3, m4, m5, m6, m7, m8, m9, m10, m11, m12, m13⟩, a14, a15, a16, a17, a18, a19, a20, a21, a22⟩ : Mat) (evR L i)).2 == 0 with
      | false => rw [hq] at h; cases h
      | true => rw [hq] at h; cases h; exact kp
  · rw [ml]
    have he := ic L L.length 0 (⟨⟨m0, m1, m2, m3, m4, m5, m6, m7, m8, m9, m10, m11, m12, m13⟩, m14, m15, m16, m17, m18, m19, m20, m21, m22⟩ : Mat)
    generalize BU L L.length 0 (⟨⟨m0, m1, m2, m3, m4, m5, m6, m7, m8, m9, m10, m11, m12, m13⟩, m14, m15, m16, m17, m18, m19, m20, m21, m22⟩ : Mat) = f at he
    obtain ⟨⟨⟨a0, a1, a2, a3, a4, a5, a6, a7, a8, a9, a10, a11, a12, a13⟩, a14, a15, a16, a17, a18, a19, a20, a21, a22⟩, b, l⟩ := f
    simp only at he
    unfold un
    cases hb : b == -1 with
    | false => rfl
    | true =>
      rw [he hb, beq_iff_eq.1 hb]
      rfl
end Go.Px
end
section
namespace Go.Px
set_option maxRecDepth 100000
def Ty (L : Rows) (i : Nat) (s : Rows × Mat) : List PV ⊕ Rows × Mat := cond (!((Av i s.2 (evR L i)).2 == 0)) (.inl (.int 0 :: .rows s.1 :: .int i :: .int (Av i s.2 (evR L i)).2 :: s.2.ls)) (.inr (cond ((evR L i).kind == 4) (s.1 ++ [jw i s.2 (Av i s.2 (evR L i)).1 (evR L i).ball]) s.1, (Av i s.2 (evR L i)).1))
def si (out : Rows) (f : Mat × Int × Int) : List PV := cond (f.2.1 == -1) (.int 1 :: .rows out :: f.1.ls) (.int 0 :: .rows out :: .int f.2.1 :: .int f.2.2 :: f.1.ls)
theorem mn (L : Rows) : ∀ k i s, KY (Ty L) (fun s => .int 1 :: .rows s.1 :: s.2.ls) k i s = si (WW L k i s.2 s.1) (BU L k i s.2)
 | 0, _, _ => rfl
 | k + 1, i, s => by
  simp only [KY, Ty, BU, WW]
  cases (Av i s.2 (evR L i)).2 == 0 with
  | false =>
   simp only [Bool.not_false, cond_true, si]
   rw [show ((i : Int) == -1) = false from beq_false_of_ne (show (i : Int) ≠ -1 by omega)]
   rfl
  | true => exact mn L k (i + 1) _
def uz (out : Rows) (f : Mat × Int × Int) : List PV := [.rows out, .str f.1.rules.name, .int f.1.rules.side, .int f.1.rules.innings, .int f.1.rules.overs, .int f.1.rules.balls, .int f.1.rules.quota, .int f.1.rules.wide, .int f.1.rules.noball, .bool f.1.rules.freehit, .int f.1.rules.newball, .int f.1.rules.followon, .int f.1.rules.reviews, .int f.1.rules.outside, .rows f.1.rules.power, .int f.1.stage, .int f.1.first, .bool f.1.follow, .rows (AQ f.1.inns), .int f.1.pen1, .int f.1.pen2, .int f.1.win, .int f.1.wside, .int f.1.margin, .int f.2.1, .int f.2.2]
theorem yG {m t : Mat} {e : Ev} (hl : m.inns.length ≤ 5) (h : ((CQ m e).2 == 0) = true) (hk : (e.kind == 4) = true) (ht : (CQ m e).1 = t) : iIn (IntKind.i64.wrap ((m.inns.length : Int) - 1)) (m.inns.length : Int) = true ∧ iIn (IntKind.i64.wrap ((m.inns.length : Int) - 1)) (t.inns.length : Int) = true := by
 obtain ⟨_, h2, _, h4⟩ := sZ h hk
 have := NQ h2 (show m.inns.length ≤ 1000000 by omega)
 rw [← ht, h4, List.length_set]
 exact ⟨this, this⟩
set_option maxHeartbeats 8000000 in
theorem sX {N : Nat} {r1 r2 r3 r4 r5 r6 r7 r9 r10 r11 r12 : Int} {r8 : Bool} {r0 : ByteArray} {r13 : Rows} {L : Rows} (hN : 2097152 < N) (hs : r0.size ≤ 1048576) (h13 : r13.length ≤ 1048576) (hL : L.length ≤ 1048576) : Ou N [.str r0, .int r1, .int r2, .int r3, .int r4, .int r5, .int r6, .int r7, .bool r8, .int r9, .int r10, .int r11, .int r12, .rows r13, .rows L] = some (uz (lP (⟨r0, r1, r2, r3, r4, r5, r6, r7, r8, r9, r10, r11, r12, r13⟩ : Rul) L) (BQ (⟨r0, r1, r2, r3, r4, r5, r6, r7, r8, r9, r10, r11, r12, r13⟩ : Rul) L)) := by
  show Oc (std (Dw N) N) (xOf _) = _
  generalize hres : (some (uz (lP (⟨r0, r1, r2, r3, r4, r5, r6, r7, r8, r9, r10, r11, r12, r13⟩ : Rul) L) (BQ (⟨r0, r1, r2, r3, r4, r5, r6, r7, r8, r9, r10, r11, r12, r13⟩ : Rul) L)) : Option (List PV)) = RR
  simp only [Oc, Yl, Pp, KC, std, xOf, PXb, gC hN hs h13]
  subst hres; simp only [lP, BQ]
  have nk := eZ (⟨r0, r1, r2, r3, r4, r5, r6, r7, r8, r9, r10, r11, r12, r13⟩ : Rul)
  generalize Bf (⟨r0, r1, r2, r3, r4, r5, r6, r7, r8, r9, r10, r11, r12, r13⟩ : Rul) = X at nk
  obtain ⟨⟨⟨m0, m1, m2, m3, m4, m5, m6, m7, m8, m9, m10, m11, m12, m13⟩, m14, m15, m16, m17, m18, m19, m20, m21, m22⟩, l⟩ := X
  simp only at nk
  simp only [PXb, PXc, PXk, Nat.reduceAdd]
  cases hl : l == 0
  case false => rfl
  have ok := nk hl
  simp only [PXb]
  refine AK (NB (St := Rows × Mat) (len := L.length) (enc := fun i s => [.rows s.1, .int (i : Int), .str s.2.rules.name, .int s.2.rules.side, .int s.2.rules.innings, .int s.2.rules.overs, .int s.2.rules.balls, .int s.2.rules.quota, .int s.2.rules.wide, .int s.2.rules.noball, .bool s.2.rules.freehit, .int s.2.rules.newball, .int s.2.rules.followon, .int s.2.rules.reviews, .int s.2.rules.outside, .rows s.2.rules.power, .int s.2.stage, .int s.2.first, .bool s.2.follow, .rows (AQ s.2.inns), .int s.2.pen1, .int s.2.pen2, .int s.2.win, .int s.2.wside, .int s.2.margin])
    (body := Ty L) (fin := fun s => .int 1 :: .rows s.1 :: s.2.ls) (fun i s => StepOk (⟨r0, r1, r2, r3, r4, r5, r6, r7, r8, r9, r10, r11, r12, r13⟩ : Rul) s.2 ∧ s.1.length ≤ i) ?_ ?_ L.length 0 ([], (⟨⟨m0, m1, m2, m3, m4, m5, m6, m7, m8, m9, m10, m11, m12, m13⟩, m14, m15, m16, m17, m18, m19, m20, m21, m22⟩ : Mat)) N (by omega) (by omega) ⟨ok, Nat.zero_le _⟩) ?_
  · intro m self _
    simp only [PXb, PXc, PXn, AA, Aj]
    rfl
  · intro i s self hi ok
    obtain ⟨out, ⟨⟨a0, a1, a2, a3, a4, a5, a6, a7, a8, a9, a10, a11, a12, a13⟩, a14, a15, a16, a17, a18, a19, a20, a21, a22⟩⟩ := s
    obtain ⟨ok, hout⟩ := ok
    have o1 := ok.rules
    have o2 := ok.fit
    have o3 := ok.len
    simp only at o1 o2 o3 hout
    cases o1
    have kp := ik ok (i : Int) (evR L i)
    have acc := ux (m := (⟨⟨r0, r1, r2, r3, r4, r5, r6, r7, r8, r9, r10, r11, r12, r13⟩, a14, a15, a16, a17, a18, a19, a20, a21, a22⟩ : Mat)) (i := (i : Int)) (e := evR L i)
    refine ⟨?_, ?_⟩
    · simp only [PXb, PXc, PXn, AA, AN (show i ≤ 1099511627776 by omega), Ae hi, AP hi, Pp, sY hN o2 (show a17.length ≤ 1000000 by omega) hs h13, A2, YC, Nat.reduceAdd, PXk, PXc, so, List.length_append, List.length_cons, List.length_nil, KC]
      unfold Ty
      simp only
      generalize hT : Av (i : Int) (⟨⟨r0, r1, r2, r3, r4, r5, r6, r7, r8, r9, r10, r11, r12, r13⟩, a14, a15, a16, a17, a18, a19, a20, a21, a22⟩ : Mat) (evR L i) = T at acc
      obtain ⟨⟨⟨b0, b1, b2, b3, b4, b5, b6, b7, b8, b9, b10, b11, b12, b13⟩, b14, b15, b16, b17, b18, b19, b20, b21, b22⟩, l2⟩ := T
      simp only at acc
      simp only
      cases hl2 : l2 == 0
      case false => rfl
      have hk0 : (evR L i).kind = atI L i 0 := rfl
      rw [hk0]
      simp only [PXb]
      cases hk : atI L i 0 == 4
      case false => rfl
      have ha := (acc hl2).1
      have hd := yG (m := (⟨⟨r0, r1, r2, r3, r4, r5, r6, r7, r8, r9, r10, r11, r12, r13⟩, a14, a15, a16, a17, a18, a19, a20, a21, a22⟩ : Mat)) (e := evR L i) o3 (by rw [← ha]; exact hl2) hk (congrArg Prod.fst ha).symm
      simp only at hd
      have h216 : iSm ((out.length + 1 : Nat) : Int) 216 = true := Gx (by omega) (by omega)
      simp only [PXb, PXc, kz hd.1 hd.2, h216]
      rfl
    · intro s' h
      unfold Ty at h
      simp only at h
      cases hq : (Av (i : Int) (⟨⟨r0, r1, r2, r3, r4, r5, r6, r7, r8, r9, r10, r11, r12, r13⟩, a14, a15, a16, a17, a18, a19, a20, a21, a22⟩ : Mat) (evR L i)).2 == 0 with
      | false => rw [hq] at h; cases h
      | true =>
        rw [hq] at h; cases h
        refine ⟨kp, ?_⟩
        cases (evR L i).kind == 4 with
        | false => show out.length ≤ _; omega
        | true => show (out ++ [_]).length ≤ _; rw [List.length_append]; simp; omega
  · rw [mn]
    have he := ic L L.length 0 (⟨⟨m0, m1, m2, m3, m4, m5, m6, m7, m8, m9, m10, m11, m12, m13⟩, m14, m15, m16, m17, m18, m19, m20, m21, m22⟩ : Mat)
    simp only
    generalize WW L L.length 0 (⟨⟨m0, m1, m2, m3, m4, m5, m6, m7, m8, m9, m10, m11, m12, m13⟩, m14, m15, m16, m17, m18, m19, m20, m21, m22⟩ : Mat) [] = out
    generalize BU L L.length 0 (⟨⟨m0, m1, m2, m3, m4, m5, m6, m7, m8, m9, m10, m11, m12, m13⟩, m14, m15, m16, m17, m18, m19, m20, m21, m22⟩ : Mat) = f at he
    obtain ⟨⟨⟨a0, a1, a2, a3, a4, a5, a6, a7, a8, a9, a10, a11, a12, a13⟩, a14, a15, a16, a17, a18, a19, a20, a21, a22⟩, b, l⟩ := f
    simp only at he
    unfold si
    cases hb : b == -1 with
    | false => rfl
    | true =>
      rw [he hb, beq_iff_eq.1 hb]
      rfl
end Go.Px
end
section
namespace Go.Px
set_option maxRecDepth 100000
theorem eB {N : Nat} {r1 r2 r3 r4 r5 r6 r7 r9 r10 r11 r12 : Int} {r8 : Bool} {r0 : ByteArray} {r13 : Rows} {L : Rows} (hN : 2097152 < N) (hs : r0.size ≤ 1048576) (h13 : r13.length ≤ 1048576) (hL : L.length ≤ 1048576) : FQ N [.str r0, .int r1, .int r2, .int r3, .int r4, .int r5, .int r6, .int r7, .bool r8, .int r9, .int r10, .int r11, .int r12, .rows r13, .rows L] = some (TH (BQ (⟨r0, r1, r2, r3, r4, r5, r6, r7, r8, r9, r10, r11, r12, r13⟩ : Rul) L)) := by
 show KJ (std (E2 N) N) (xOf _) = _
 generalize hres : (some (TH (BQ (⟨r0, r1, r2, r3, r4, r5, r6, r7, r8, r9, r10, r11, r12, r13⟩ : Rul) L)) : Option (List PV)) = RR
 simp only [KJ, Xi, std, xOf, PXb, sX hN hs h13 hL]
 subst hres
 rfl
theorem cy {N : Nat} {r1 r2 r3 r4 r5 r6 r7 r9 r10 r11 r12 : Int} {r8 : Bool} {r0 : ByteArray} {r13 : Rows} {L : Rows} (hN : 2097152 < N) (hs : r0.size ≤ 1048576) (h13 : r13.length ≤ 1048576) (hL : L.length ≤ 1048576) : Du N [.str r0, .int r1, .int r2, .int r3, .int r4, .int r5, .int r6, .int r7, .bool r8, .int r9, .int r10, .int r11, .int r12, .rows r13, .rows L] = some (TH (BQ (⟨r0, r1, r2, r3, r4, r5, r6, r7, r8, r9, r10, r11, r12, r13⟩ : Rul) L)) := by
 show KP (std (Dh N) N) (xOf _) = _
 generalize hres : (some (TH (BQ (⟨r0, r1, r2, r3, r4, r5, r6, r7, r8, r9, r10, r11, r12, r13⟩ : Rul) L)) : Option (List PV)) = RR
 simp only [KP, Y4, NP, std, xOf, PXb, vC hN hs h13]
 subst hres; simp only [BQ]
 have nk := eZ (⟨r0, r1, r2, r3, r4, r5, r6, r7, r8, r9, r10, r11, r12, r13⟩ : Rul)
 generalize Bf (⟨r0, r1, r2, r3, r4, r5, r6, r7, r8, r9, r10, r11, r12, r13⟩ : Rul) = X at nk
 obtain ⟨⟨⟨m0, m1, m2, m3, m4, m5, m6, m7, m8, m9, m10, m11, m12, m13⟩, m14, m15, m16, m17, m18, m19, m20, m21, m22⟩, l⟩ := X
 simp only at nk
 simp only [PXb, PXc, PXk, Nat.reduceAdd]
 cases hl : l == 0
 case false => rfl
 have ok := nk hl
 have o1 := ok.rules
 have o2 := ok.fit
 have o3 := ok.len
 simp only at o1 o2 o3
 cases o1
 simp only [PXb, NP, sn hN o2 o3 hs h13 hL]
 rfl
theorem pL (L : Rows) : ∀ k i m, iLe 0 (BU L k i m).2.1 = !((BU L k i m).2.2 == 0) ∧ ((BU L k i m).2.1 == -1) = ((BU L k i m).2.2 == 0)
 | 0, _, _ => ⟨rfl, rfl⟩
 | k + 1, i, m => by
  unfold BU
  cases hq : (Av i m (evR L i)).2 == 0 with
  | false =>
   simp only [Bool.not_false, cond_true, hq]
   exact ⟨by simp only [iLe, decide_eq_true_eq]; omega, beq_false_of_ne (by omega)⟩
  | true => exact pL L k (i + 1) _
theorem jQ (r : Rul) (L : Rows) : iLe 0 (BQ r L).2.1 = !((BQ r L).2.2 == 0) ∧ ((BQ r L).2.1 == -1) = ((BQ r L).2.2 == 0) := by
 unfold BQ
 cases (Bf r).2 == 0 with
 | false => exact ⟨rfl, rfl⟩
 | true => exact pL L L.length 0 _
def DY (r : Rul) (L : Rows) : Int := cond (!(Ax r == 0)) (Ax r) (cond (iLt 4000 (L.length : Int)) 9 (cond (!((BQ r L).2.2 == 0)) 10 0))
theorem XW {N : Nat} {r1 r2 r3 r4 r5 r6 r7 r9 r10 r11 r12 : Int} {r8 : Bool} {r0 : ByteArray} {r13 : Rows} {L : Rows} (hN : 2097152 < N) (hs : r0.size ≤ 1048576) (h13 : r13.length ≤ 1048576) (hL : L.length ≤ 1048576) : Ez N [.str r0, .int r1, .int r2, .int r3, .int r4, .int r5, .int r6, .int r7, .bool r8, .int r9, .int r10, .int r11, .int r12, .rows r13, .rows L] = some [.int (DY (⟨r0, r1, r2, r3, r4, r5, r6, r7, r8, r9, r10, r11, r12, r13⟩ : Rul) L)] := by
 show L5 (std (EM N) N) (xOf _) = _
 generalize hres : (some [.int (DY (⟨r0, r1, r2, r3, r4, r5, r6, r7, r8, r9, r10, r11, r12, r13⟩ : Rul) L)] : Option (List PV)) = RR
 simp only [L5, VN, XJ, std, xOf, PXb, DI hN hs, eB hN hs h13 hL, PXm]
 subst hres; simp only [DY]
 rfl
theorem fR {N : Nat} {r1 r2 r3 r4 r5 r6 r7 r9 r10 r11 r12 : Int} {r8 : Bool} {r0 : ByteArray} {r13 : Rows} {L : Rows} (hN : 2097152 < N) (hs : r0.size ≤ 1048576) (h13 : r13.length ≤ 1048576) (hL : L.length ≤ 1048576) : Lj N [.str r0, .int r1, .int r2, .int r3, .int r4, .int r5, .int r6, .int r7, .bool r8, .int r9, .int r10, .int r11, .int r12, .rows r13, .rows L] = some [.int (DY (⟨r0, r1, r2, r3, r4, r5, r6, r7, r8, r9, r10, r11, r12, r13⟩ : Rul) L)] := by
 show LU (std (EK N) N) (xOf _) = _
 generalize hres : (some [.int (DY (⟨r0, r1, r2, r3, r4, r5, r6, r7, r8, r9, r10, r11, r12, r13⟩ : Rul) L)] : Option (List PV)) = RR
 simp only [LU, Xr, XZ, std, xOf, PXb, Dl hN hs, cy hN hs h13 hL, PXm, TH, PXc, (jQ (⟨r0, r1, r2, r3, r4, r5, r6, r7, r8, r9, r10, r11, r12, r13⟩ : Rul) L).1]
 subst hres; simp only [DY]
def GY (L : Rows) (n : Int) : Rows := (L.take n.toNat).drop (0 : Int).toNat
theorem vg (L : Rows) (n : Int) : (GY L n).length ≤ L.length := by
 unfold GY
 rw [List.length_drop, List.length_take]
 omega
theorem yI {n : Int} {k : Nat} (h : (iLt n 0 || iLt (k : Int) n) = false) : iRg 0 n (k : Int) = true := by
 rw [Bool.or_eq_false_iff] at h
 simp only [iLt, decide_eq_false_iff_not] at h
 simp only [iRg, decide_eq_true_eq]
 omega
def atS (r : Rul) (L : Rows) (n : Int) : Mat × Int := cond (!(Ax r == 0)) (WD, Ax r) (cond (iLt n 0 || iLt (L.length : Int) n) (WD, 2) (cond (!((BQ r (GY L n)).2.2 == 0)) (WD, 10) ((BQ r (GY L n)).1, 0)))
theorem v7 {N : Nat} {r1 r2 r3 r4 r5 r6 r7 r9 r10 r11 r12 : Int} {r8 : Bool} {r0 : ByteArray} {r13 : Rows} {L : Rows} {n : Int} (hN : 2097152 < N) (hs : r0.size ≤ 1048576) (h13 : r13.length ≤ 1048576) (hL : L.length ≤ 1048576) : UO N [.str r0, .int r1, .int r2, .int r3, .int r4, .int r5, .int r6, .int r7, .bool r8, .int r9, .int r10, .int r11, .int r12, .rows r13, .rows L, .int n] = some (Em (atS (⟨r0, r1, r2, r3, r4, r5, r6, r7, r8, r9, r10, r11, r12, r13⟩ : Rul) L n)) := by
 show UP (std (IL N) N) (xOf _) = _
 generalize hres : (some (Em (atS (⟨r0, r1, r2, r3, r4, r5, r6, r7, r8, r9, r10, r11, r12, r13⟩ : Rul) L n)) : Option (List PV)) = RR
 simp only [UP, cF, P0, std, xOf, PXb, Dl hN hs]
 subst hres; simp only [atS]
 cases Ax (⟨r0, r1, r2, r3, r4, r5, r6, r7, r8, r9, r10, r11, r12, r13⟩ : Rul) == 0
 case false => rfl
 cases hb : iLt n 0 || iLt (L.length : Int) n
 case true => rfl
 have hf := Nat.le_trans (vg L n) hL
 simp only [PXb, yI hb, P0]
 change (Option.bind (Du N [.str r0, .int r1, .int r2, .int r3, .int r4, .int r5, .int r6, .int r7, .bool r8, .int r9, .int r10, .int r11, .int r12, .rows r13, .rows (GY L n)]) _) = _
 rw [cy hN hs h13 hf]
 simp only [PXb, PXc, TH, (jQ (⟨r0, r1, r2, r3, r4, r5, r6, r7, r8, r9, r10, r11, r12, r13⟩ : Rul) (GY L n)).1]
 cases (BQ (⟨r0, r1, r2, r3, r4, r5, r6, r7, r8, r9, r10, r11, r12, r13⟩ : Rul) (GY L n)).2.2 == 0 <;> rfl
structure LogOk (m : Mat) : Prop where
 fit : Cw m.inns
 len : m.inns.length ≤ 5
 name : m.rules.name.size ≤ 1048576
 power : m.rules.power.length ≤ 1048576
end Go.Px
end
section
namespace Go.Px
set_option maxRecDepth 100000
def acc (L : Rows) : Nat → Nat → Mat → Prop
 | 0, _, _ => True
 | k + 1, i, m => ((Av i m (evR L i)).2 == 0) = true ∧ acc L k (i + 1) (Av i m (evR L i)).1
def stM (L : Rows) : Nat → Nat → Mat → Mat
 | 0, _, m => m
 | k + 1, i, m => stM L k (i + 1) (Av i m (evR L i)).1
def xI (L : Rows) : Nat → Nat → Mat → Rows → Rows
 | 0, _, _, out => out
 | k + 1, i, m, out => xI L k (i + 1) (Av i m (evR L i)).1 (cond ((evR L i).kind == 4) (out ++ [jw i m (Av i m (evR L i)).1 (evR L i).ball]) out)
theorem ka {L : Rows} : ∀ k j i m, acc L k i m → BU L (k + j) i m = BU L j (i + k) (stM L k i m)
 | 0, j, i, m, _ => by rw [Nat.zero_add]; rfl
 | k + 1, j, i, m, h => by
  have ih := ka k j (i + 1) _ h.2
  rw [show k + 1 + j = (k + j) + 1 by omega, show i + (k + 1) = i + 1 + k by omega]
  simp only [BU, h.1, Bool.not_true, cond_false]
  exact ih
theorem ow (L : Rows) : ∀ K i m, ∃ k, k ≤ K ∧ acc L k i m ∧ (∀ out, WW L K i m out = xI L k i m out) ∧
    ((k = K ∧ BU L K i m = (stM L k i m, -1, 0)) ∨ (k < K ∧ ((Av ((i + k : Nat) : Int) (stM L k i m) (evR L (i + k))).2 == 0) = false ∧ BU L K i m = (stM L k i m, ((i + k : Nat) : Int), (Av ((i + k : Nat) : Int) (stM L k i m) (evR L (i + k))).2)))
  | 0, i, m => ⟨0, Nat.le_refl _, trivial, fun _ => rfl, Or.inl ⟨rfl, rfl⟩⟩
  | K + 1, i, m => by
    cases hq : (Av i m (evR L i)).2 == 0 with
    | false =>
      refine ⟨0, Nat.zero_le _, trivial, fun out => ?_, Or.inr ⟨Nat.succ_pos _, hq, ?_⟩⟩
      · simp only [WW, hq, Bool.not_false, cond_true]; rfl
      · simp only [BU, hq, Bool.not_false, cond_true]; rfl
    | true =>
      obtain ⟨k, h1, h2, h3, h4⟩ := ow L K (i + 1) (Av i m (evR L i)).1
      refine ⟨k + 1, Nat.succ_le_succ h1, ⟨hq, h2⟩, fun out => ?_, ?_⟩
      · simp only [WW, hq, Bool.not_true, cond_false]
        exact h3 _
      · have e : BU L (K + 1) i m = BU L K (i + 1) (Av i m (evR L i)).1 := by simp only [BU, hq, Bool.not_true, cond_false]
        rw [e, show i + (k + 1) = i + 1 + k by omega]
        rcases h4 with ⟨h5, h6⟩ | ⟨h5, h6⟩
        · exact Or.inl ⟨by omega, h6⟩
        · exact Or.inr ⟨by omega, h6⟩
theorem kj {L : Rows} : ∀ k j i m, j ≤ k → acc L k i m → acc L j i m
 | _, 0, _, _, _, _ => trivial
 | 0, j + 1, _, _, h, _ => absurd h (by omega)
 | k + 1, j + 1, i, m, h, ha => ⟨ha.1, kj k j (i + 1) _ (by omega) ha.2⟩
theorem v8 {L : Rows} {k i : Nat} {m : Mat} (h : acc L k i m) : BU L k i m = (stM L k i m, -1, 0) := ka k 0 i m h
theorem wJ {L : Rows} {n : Int} {i : Nat} (h : (i : Int) < n) : evR (GY L n) i = evR L i := by
 have e : ∀ j, AG (GY L n) i j = AG L i j := fun j => by
  unfold AG A1 GY
  rw [List.getD_eq_getElem?_getD, List.getD_eq_getElem?_getD, List.getElem?_drop, List.getElem?_take, if_pos (by omega)]
  simp
 unfold evR atI atB
 simp only [e]
theorem uW {L : Rows} {n : Nat} (h : n ≤ L.length) : (GY L (n : Int)).length = n := by
 unfold GY
 rw [List.length_drop, List.length_take]
 omega
theorem jv {L : Rows} {n : Int} : ∀ k i m, ((i + k : Nat) : Int) ≤ n → BU (GY L n) k i m = BU L k i m
 | 0, _, _, _ => rfl
 | k + 1, i, m, h => by
  simp only [BU]
  rw [wJ (show (i : Int) < n by omega), jv k (i + 1) _ (by omega)]
theorem pE {r : Rul} {L : Rows} {n : Nat} (hc : ((Bf r).2 == 0) = true) (h : n ≤ L.length) : BQ r (GY L (n : Int)) = BU L n 0 (Bf r).1 := by
 unfold BQ
 rw [hc, uW h]
 exact jv n 0 _ (by omega)
theorem T8 (r : Rul) : ((Bf r).2 == 0) = (Ax r == 0) := by
 unfold Bf
 cases h : Ax r == 0 with
 | false => exact h
 | true => rfl
theorem tM {r : Rul} {L : Rows} : ∀ k i m, StepOk r m → StepOk r (stM L k i m)
 | 0, _, _, h => h
 | k + 1, i, m, h => tM k (i + 1) _ (ik h _ _)
theorem pq {L : Rows} : ∀ k i m, stM L (k + 1) i m = (Av ((i + k : Nat) : Int) (stM L k i m) (evR L (i + k))).1
 | 0, i, m => rfl
 | k + 1, i, m => by
  show stM L (k + 1) (i + 1) _ = _
  rw [pq k (i + 1), show i + 1 + k = i + (k + 1) by omega]
  rfl
theorem yO {n : Nat} {l : Nat} (h : n ≤ l) : (iLt (n : Int) 0 || iLt (l : Int) (n : Int)) = false := by
 simp only [iLt, Bool.or_eq_false_iff, decide_eq_false_iff_not]
 omega
theorem wG {r : Rul} {L : Rows} {n : Nat} (hc : (Ax r == 0) = true) (h : n ≤ L.length) : atS r L (n : Int) = cond (!((BU L n 0 (Bf r).1).2.2 == 0)) (WD, 10) ((BU L n 0 (Bf r).1).1, 0) := by
 unfold atS
 rw [hc, yO h, pE ((T8 r).trans hc) h]
 rfl
theorem o8 {r : Rul} {L : Rows} {n : Nat} (hc : (Ax r == 0) = true) (h : n ≤ L.length) (ha : acc L n 0 (Bf r).1) : atS r L (n : Int) = (stM L n 0 (Bf r).1, 0) := by
 rw [wG hc h, v8 ha]
 rfl
end Go.Px
end
