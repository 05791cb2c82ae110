/- Part 16. -/
import Derived.Test.YtibhmjjjbblhmaaGreatPart15
import Derived.Shelf.Spec.SlicesGrow
import Derived.Test.YtibhmjjjbblhmaaGreatProg
set_option linter.unusedVariables false
set_option linter.unusedSimpArgs false
section
namespace Go.Px
set_option maxRecDepth 100000
def Ib (L : Rows) (k : Int) : Rows := (L.take L.length).drop k.toNat
theorem tW (L : Rows) (k : Int) : Ib L k = L.drop k.toNat := by
 unfold Ib
 rw [List.take_length]
theorem qu (L : Rows) (k : Int) : Cs L k = L.take k.toNat := rfl
def Sk (L : Rows) (k : Int) : Rows := Cs L k ++ Ib L (IntKind.i64.wrap (k + 1))
def Va (L : Rows) (k : Int) (e : Ev) : Rows := Cs L k ++ ([Sv e] ++ Ib L k)
theorem nO {L : Rows} {k : Int} (h0 : 0 ≤ k) (h : k < (L.length : Int)) (hl : L.length ≤ 1000001) : (Sk L k).length = L.length - 1 := by
 unfold Sk
 rw [List.length_append, qu, tW, List.length_take, List.length_drop, DG (by omega) (by omega)]
 omega
theorem nT {L : Rows} {k : Int} (e : Ev) (h0 : 0 ≤ k) (h : k ≤ (L.length : Int)) : (Va L k e).length = L.length + 1 := by
 unfold Va
 rw [List.length_append, List.length_append, qu, tW, List.length_take, List.length_drop]
 simp only [List.length_cons, List.length_nil]
 omega
def Zr (r : Rul) (L : Rows) (k : Int) : Rows × Int × Int := cond (!(BD r L == 0) || iLt k 0 || iLe (L.length : Int) k) ([], -1, 1) (KF r (Sk L k))
def ZO (r : Rul) (L : Rows) (k : Int) (e : Ev) : Rows × Int × Int := cond (!(BD r L == 0) || iLt k 0 || iLt (L.length : Int) k) ([], -1, 1) (KF r (Va L k e))
theorem guard_ok {r : Rul} {L : Rows} {k : Int} (h : (BD r L == 0) = true) (h0 : 0 ≤ k) (h1 : k < (L.length : Int)) : (!(BD r L == 0) || iLt k 0 || iLe (L.length : Int) k) = false := by
 simp only [Bool.or_eq_false_iff, iLt, iLe, decide_eq_false_iff_not, h, Bool.not_true, true_and]
 omega
theorem jH {r : Rul} {L : Rows} {k : Int} (h : (!(BD r L == 0) || iLt k 0 || iLe (L.length : Int) k) = false) : (BD r L == 0) = true ∧ 0 ≤ k ∧ k < (L.length : Int) := by
 simp only [Bool.or_eq_false_iff, iLt, iLe, decide_eq_false_iff_not, Bool.not_eq_false'] at h
 exact ⟨h.1.1, by omega, by omega⟩
theorem dU {r : Rul} {L : Rows} {k : Int} (h : (!(BD r L == 0) || iLt k 0 || iLt (L.length : Int) k) = false) : (BD r L == 0) = true ∧ 0 ≤ k ∧ k ≤ (L.length : Int) := by
 simp only [Bool.or_eq_false_iff, iLt, decide_eq_false_iff_not, Bool.not_eq_false'] at h
 exact ⟨h.1.1, by omega, by omega⟩
def ux (xs : List Rows) : Rows := xs.map fun x => [.rows x]
theorem xM (xs : List Rows) : (ux xs).length = xs.length := List.length_map _
theorem y7 (xs : List Rows) (i : Nat) : pvL (AJ (ux xs) i 0) = xs.getD i [] := by
 unfold AJ A6 ux
 rw [List.getD_eq_getElem?_getD, List.getD_eq_getElem?_getD, List.getElem?_map]
 cases xs[i]? <;> rfl
def Ez (xs : List Rows) : Nat → Rows
 | 0 => []
 | i + 1 => Ez xs i ++ xs.getD i []
theorem rQ (xs : List Rows) {i : Nat} : ∀ n, i ≤ n → (Ez xs i).length ≤ (Ez xs n).length
 | 0, h => by rw [Nat.le_zero.1 h]; exact Nat.le_refl _
 | n + 1, h => by
  rcases Nat.lt_or_ge n i with h1 | h1
  ·rw [show i = n + 1 by omega]; exact Nat.le_refl _
  ·refine Nat.le_trans (rQ xs n h1) ?_
   rw [Ez, List.length_append]
   omega
set_option maxHeartbeats 2000000 in
theorem N4 {N : Nat} {xs : List Rows} (hN : 2097152 < N) (hx : xs.length ≤ 1000) (hs : (Ez xs xs.length).length ≤ 1048576) : Ax N [.rows (ux xs)] = some [.rows (Ez xs xs.length)] := by
 show C8 (std (Bs N) N) (xOf _) = _
 simp only [C8, It, std, xOf, PXb, xM]
 refine AK (DK (len := xs.length) (fun i => [.int ((Ez xs i).length : Int), .int (i : Int)]) [.int ((Ez xs xs.length).length : Int)] ?_ ?_ N (by omega)) ?_
 ·intro self
  simp only [PXb, PXc, PXn, AB, Ao]
 ·intro i self hi
  have h1 := rQ xs (i := i + 1) xs.length (by omega)
  have h2 : ((Ez xs i).length : Int) + ((xs.getD i []).length : Int) = ((Ez xs (i + 1)).length : Int) := by rw [Ez, List.length_append]; omega
  have hw : IntKind.i64.wrap ((Ez xs (i + 1)).length : Int) = ((Ez xs (i + 1)).length : Int) := DG (by omega) (by omega)
  have h3 : iLt ((Ez xs (i + 1)).length : Int) 0 = false := by simp only [iLt, decide_eq_false_iff_not]; omega
  simp only [PXb, PXc, PXn, AB, AQ (show i ≤ 1099511627776 by omega), Ah hi, AO hi, y7, h2, hw, h3]
  rfl
 ·have hg : Fy N [.rows [], .int ((Ez xs xs.length).length : Int)] = some [.rows []] := by
   show fi _ = _
   unfold fi
   have h1 : Nat.ble ((Ez xs xs.length).length : Int).toNat 1048576 = true := Nat.ble_eq_true_of_le (by omega)
   have h2 : decide (0 ≤ ((Ez xs xs.length).length : Int)) = true := decide_eq_true (by omega)
   simp only [h1, h2]
   rfl
  simp only [PXb, PXc, hg]
  refine AK (DK (len := xs.length) (fun i => [.rows (Ez xs i), .int (i : Int)]) [.rows (Ez xs xs.length)] ?_ ?_ N (by omega)) ?_
  ·intro self
   simp only [PXb, PXc, PXn, AB, Ao]
  ·intro i self hi
   have h1 := rQ xs (i := i + 1) xs.length (by omega)
   have h136 : iSm (((Ez xs i ++ xs.getD i []).length : Nat) : Int) 136 = true := Dd (by rw [show Ez xs i ++ xs.getD i [] = Ez xs (i + 1) from rfl]; omega) (by omega)
   simp only [PXb, PXc, PXn, AB, AQ (show i ≤ 1099511627776 by omega), Ah hi, AO hi, y7, h136]
   rfl
  ·rfl
theorem ni (A B C : Rows) : Ez [A, B, C] 3 = A ++ (B ++ C) := List.append_assoc _ _ _
theorem yn {N : Nat} {A B : Rows} (hN : 2097152 < N) (h : (A ++ B).length ≤ 1048576) : Ax N [.rows [[.rows A], [.rows B]]] = some [.rows (A ++ B)] :=
 N4 (xs := [A, B]) hN (by show 2 ≤ 1000; omega) h
theorem yX {N : Nat} {A B C : Rows} (hN : 2097152 < N) (h : (A ++ (B ++ C)).length ≤ 1048576) : Ax N [.rows [[.rows A], [.rows B], [.rows C]]] = some [.rows (A ++ (B ++ C))] := by
 rw [← ni]
 exact N4 (xs := [A, B, C]) hN (by show 3 ≤ 1000; omega) (by show (Ez [A, B, C] 3).length ≤ _; rw [ni]; exact h)
theorem aW {k : Int} {L : Rows} (h0 : 0 ≤ k) (h : k ≤ (L.length : Int)) : iRg 0 k (L.length : Int) = true := by simp only [iRg, Bool.and_eq_true, decide_eq_true_eq]; omega
theorem fc {k : Int} {L : Rows} (h0 : 0 ≤ k) (h : k ≤ (L.length : Int)) : iRg k (L.length : Int) (L.length : Int) = true := by simp only [iRg, Bool.and_eq_true, decide_eq_true_eq]; omega
theorem jG {N : Nat} {r1 r2 r3 r4 r5 r6 r7 r9 r10 r11 r12 : Int} {r8 : Bool} {r0 : ByteArray} {r13 : Rows} {L : Rows} {k : Int} (hN : 2097152 < N) (hs : r0.size ≤ 1048576) (h13 : r13.length ≤ 1048576) (hL : L.length ≤ 1000000) : Fl N [.str r0, .int r1, .int r2, .int r3, .int r4, .int r5, .int r6, .int r7, .bool r8, .int r9, .int r10, .int r11, .int r12, .rows r13, .rows L, .int k] = some (B3 (Zr (⟨r0, r1, r2, r3, r4, r5, r6, r7, r8, r9, r10, r11, r12, r13⟩ : Rul) L k)) := by
 show FM (std (Bm N) N) (xOf _) = _
 generalize hres : (some (B3 (Zr (⟨r0, r1, r2, r3, r4, r5, r6, r7, r8, r9, r10, r11, r12, r13⟩ : Rul) L k)) : Option (List PV)) = RR
 simp only [FM, Sp, J8, NV, std, xOf, PXb, MC hN hs h13 (show L.length ≤ 1048576 by omega), PXc]
 subst hres
 unfold Zr
 cases hx : !BD (⟨r0, r1, r2, r3, r4, r5, r6, r7, r8, r9, r10, r11, r12, r13⟩ : Rul) L == 0 || iLt k 0 || iLe (L.length : Int) k
 case true => rfl
 obtain ⟨h1, h2, h3⟩ := jH hx
 have hw : IntKind.i64.wrap (k + 1) = k + 1 := DG (by omega) (by omega)
 have hl := nO h2 h3 (by omega)
 have g1 := aW (L := L) h2 (by omega)
 have g2 := fc (L := L) (k := IntKind.i64.wrap (k + 1)) (by omega) (by omega)
 have cc : Ax N [.rows [[.rows (Cs L k)], [.rows (Ib L (IntKind.i64.wrap (k + 1)))]]] = some [.rows (Sk L k)] := yn hN (by show (Sk L k).length ≤ _; omega)
 unfold Cs Ib at cc
 have ch : A5 N [.str r0, .int r1, .int r2, .int r3, .int r4, .int r5, .int r6, .int r7, .bool r8, .int r9, .int r10, .int r11, .int r12, .rows r13, .rows (Sk L k)] = some (B3 (KF (⟨r0, r1, r2, r3, r4, r5, r6, r7, r8, r9, r10, r11, r12, r13⟩ : Rul) (Sk L k))) := Lx hN hs h13 (by omega)
 simp only [g1, g2, cc, ch, B3, PXb, PXc]
theorem jo {N : Nat} {r1 r2 r3 r4 r5 r6 r7 r9 r10 r11 r12 : Int} {r8 : Bool} {r0 : ByteArray} {r13 : Rows} {L : Rows} {k : Int} {e0 e1 e2 e3 e5 e6 e7 e8 e9 e10 e11 e13 e14 e15 e16 e18 : Int} {e4 e12 e17 : Bool} (hN : 2097152 < N) (hs : r0.size ≤ 1048576) (h13 : r13.length ≤ 1048576) (hL : L.length ≤ 1000000) : FT N [.str r0, .int r1, .int r2, .int r3, .int r4, .int r5, .int r6, .int r7, .bool r8, .int r9, .int r10, .int r11, .int r12, .rows r13, .rows L, .int k, .int e0, .int e1, .int e2, .int e3, .bool e4, .int e5, .int e6, .int e7, .int e8, .int e9, .int e10, .int e11, .bool e12, .int e13, .int e14, .int e15, .int e16, .bool e17, .int e18] = some (B3 (ZO (⟨r0, r1, r2, r3, r4, r5, r6, r7, r8, r9, r10, r11, r12, r13⟩ : Rul) L k (⟨e0, e1, e2, e3, e4, e5, e6, ⟨e7, e8, e9, e10, e11, e12, e13, e14, e15, e16, e17, e18⟩⟩ : Ev))) := by
 show FI (std (Bn N) N) (xOf _) = _
 generalize hres : (some (B3 (ZO (⟨r0, r1, r2, r3, r4, r5, r6, r7, r8, r9, r10, r11, r12, r13⟩ : Rul) L k (⟨e0, e1, e2, e3, e4, e5, e6, ⟨e7, e8, e9, e10, e11, e12, e13, e14, e15, e16, e17, e18⟩⟩ : Ev))) : Option (List PV)) = RR
 simp only [FI, Sc, Ka, Ne, std, xOf, PXb, MC hN hs h13 (show L.length ≤ 1048576 by omega), PXc]
 subst hres
 unfold ZO
 cases hx : !BD (⟨r0, r1, r2, r3, r4, r5, r6, r7, r8, r9, r10, r11, r12, r13⟩ : Rul) L == 0 || iLt k 0 || iLt (L.length : Int) k
 case true => rfl
 obtain ⟨h1, h2, h3⟩ := dU hx
 have hl := nT (⟨e0, e1, e2, e3, e4, e5, e6, ⟨e7, e8, e9, e10, e11, e12, e13, e14, e15, e16, e17, e18⟩⟩ : Ev) h2 h3
 have g1 := aW (L := L) h2 h3
 have g2 := fc (L := L) h2 h3
 have cc : Ax N [.rows [[.rows (Cs L k)], [.rows [Sv (⟨e0, e1, e2, e3, e4, e5, e6, ⟨e7, e8, e9, e10, e11, e12, e13, e14, e15, e16, e17, e18⟩⟩ : Ev)]], [.rows (Ib L k)]]] = some [.rows (Va L k (⟨e0, e1, e2, e3, e4, e5, e6, ⟨e7, e8, e9, e10, e11, e12, e13, e14, e15, e16, e17, e18⟩⟩ : Ev))] := yX hN (by show (Va L k (⟨e0, e1, e2, e3, e4, e5, e6, ⟨e7, e8, e9, e10, e11, e12, e13, e14, e15, e16, e17, e18⟩⟩ : Ev)).length ≤ _; omega)
 unfold Cs Ib at cc
 simp only [Sv, Del.ls, List.cons_append, List.nil_append] at cc
 have ch : A5 N [.str r0, .int r1, .int r2, .int r3, .int r4, .int r5, .int r6, .int r7, .bool r8, .int r9, .int r10, .int r11, .int r12, .rows r13, .rows (Va L k (⟨e0, e1, e2, e3, e4, e5, e6, ⟨e7, e8, e9, e10, e11, e12, e13, e14, e15, e16, e17, e18⟩⟩ : Ev))] = some (B3 (KF (⟨r0, r1, r2, r3, r4, r5, r6, r7, r8, r9, r10, r11, r12, r13⟩ : Rul) (Va L k (⟨e0, e1, e2, e3, e4, e5, e6, ⟨e7, e8, e9, e10, e11, e12, e13, e14, e15, e16, e17, e18⟩⟩ : Ev)))) := Lx hN hs h13 (by omega)
 simp only [g1, g2, cc, ch, B3, PXb, PXc]
theorem wR {N : Nat} {L : Rows}  : Rs N [.rows L] = some [.rows (cut L 60)] := by
 show Rt (std (MX N) N) (xOf _) = _
 simp only [Rt, std, xOf, PXb, PXc, PXn, PXm, Nat.reduceAdd, Int.reduceBEq, zf (show (0 : Int) ≤ 60 by omega)]
 rfl
theorem IL {N : Nat} {L : Rows} (hN : 2097152 < N) (h : L.length ≤ 1048576) : E3 N [.rows L, .rows L] = some [.bool true] := by
 show Eu (std (MM N) N) (xOf _) = _
 simp only [Eu, std, xOf, PXb, PXm]
 refine AK (DK (len := L.length) (fun i => [.int (i : Int)]) [.int 1] ?_ ?_ N (by omega)) ?_
 ·intro self
  simp only [PXb, PXc, PXn, AB, Ao]
 ·intro i self hi
  simp only [PXb, PXc, PXn, PXm, Nat.reduceAdd, Int.reduceBEq, AQ (show i ≤ 1099511627776 by omega), Ah hi, AO hi]
  rfl
 ·simp only [PXb, PXc, PXn, PXm, Nat.reduceAdd, Int.reduceBEq]
theorem S8 {N : Nat} {r1 r2 r3 r4 r5 r6 r7 r9 r10 r11 r12 : Int} {r8 : Bool} {r0 : ByteArray} {r13 : Rows} {L : Rows} (hN : 2097152 < N) (hs : r0.size ≤ 1048576) (h13 : r13.length ≤ 1048576) (hL : L.length ≤ 1048576) : Bi N [.str r0, .int r1, .int r2, .int r3, .int r4, .int r5, .int r6, .int r7, .bool r8, .int r9, .int r10, .int r11, .int r12, .rows r13, .rows L] = some (B3 (KF (⟨r0, r1, r2, r3, r4, r5, r6, r7, r8, r9, r10, r11, r12, r13⟩ : Rul) L)) := by
 show JD (std (EP N) N) (xOf _) = _
 generalize hres : (some (B3 (KF (⟨r0, r1, r2, r3, r4, r5, r6, r7, r8, r9, r10, r11, r12, r13⟩ : Rul) L)) : Option (List PV)) = RR
 simp only [JD, VT, std, xOf, PXb, ed hN hs h13 hL, Tg, PXc, (kh (⟨r0, r1, r2, r3, r4, r5, r6, r7, r8, r9, r10, r11, r12, r13⟩ : Rul) L).1]
 subst hres; simp only [KF]
 cases (Bq (⟨r0, r1, r2, r3, r4, r5, r6, r7, r8, r9, r10, r11, r12, r13⟩ : Rul) L).2.2 == 0 <;> rfl
theorem oX {N : Nat} {r1 r2 r3 r4 r5 r6 r7 r9 r10 r11 r12 : Int} {r8 : Bool} {r0 : ByteArray} {r13 : Rows} {L : Rows} {k : Int} {e0 e1 e2 e3 e5 e6 e7 e8 e9 e10 e11 e13 e14 e15 e16 e18 : Int} {e4 e12 e17 : Bool} (hN : 2097152 < N) (hs : r0.size ≤ 1048576) (h13 : r13.length ≤ 1048576) (hL : L.length ≤ 1000000) : JM N [.str r0, .int r1, .int r2, .int r3, .int r4, .int r5, .int r6, .int r7, .bool r8, .int r9, .int r10, .int r11, .int r12, .rows r13, .rows L, .int k, .int e0, .int e1, .int e2, .int e3, .bool e4, .int e5, .int e6, .int e7, .int e8, .int e9, .int e10, .int e11, .bool e12, .int e13, .int e14, .int e15, .int e16, .bool e17, .int e18] = some (B3 (edS (⟨r0, r1, r2, r3, r4, r5, r6, r7, r8, r9, r10, r11, r12, r13⟩ : Rul) L k (⟨e0, e1, e2, e3, e4, e5, e6, ⟨e7, e8, e9, e10, e11, e12, e13, e14, e15, e16, e17, e18⟩⟩ : Ev))) := by
 show JF (std (DE N) N) (xOf _) = _
 generalize hres : (some (B3 (edS (⟨r0, r1, r2, r3, r4, r5, r6, r7, r8, r9, r10, r11, r12, r13⟩ : Rul) L k (⟨e0, e1, e2, e3, e4, e5, e6, ⟨e7, e8, e9, e10, e11, e12, e13, e14, e15, e16, e17, e18⟩⟩ : Ev))) : Option (List PV)) = RR
 have h136 : iSm ((L.length : Nat) : Int) 136 = true := Dd (by omega) (by omega)
 simp only [JF, Vv, Tz, std, xOf, PXb, XQ hN hs h13 (show L.length ≤ 1048576 by omega), List.nil_append, h136, PXc]
 subst hres
 unfold edS
 cases hx : !BD (⟨r0, r1, r2, r3, r4, r5, r6, r7, r8, r9, r10, r11, r12, r13⟩ : Rul) L == 0 || iLt k 0 || iLe (L.length : Int) k
 case true => rfl
 have hi : iIn k (L.length : Int) = true := by
  simp only [Bool.or_eq_false_iff, iLt, iLe, decide_eq_false_iff_not] at hx
  simp only [iIn, decide_eq_true_eq, Bool.and_eq_true]
  omega
 simp only [hi, PXb]
 have : Bi N [.str r0, .int r1, .int r2, .int r3, .int r4, .int r5, .int r6, .int r7, .bool r8, .int r9, .int r10, .int r11, .int r12, .rows r13, .rows (edL L k (⟨e0, e1, e2, e3, e4, e5, e6, ⟨e7, e8, e9, e10, e11, e12, e13, e14, e15, e16, e17, e18⟩⟩ : Ev))] = some (B3 (KF (⟨r0, r1, r2, r3, r4, r5, r6, r7, r8, r9, r10, r11, r12, r13⟩ : Rul) (edL L k (⟨e0, e1, e2, e3, e4, e5, e6, ⟨e7, e8, e9, e10, e11, e12, e13, e14, e15, e16, e17, e18⟩⟩ : Ev)))) := S8 hN hs h13 (by rw [dL]; omega)
 simp only [edL, Sv, Del.ls, List.cons_append, List.nil_append] at this
 simp only [this]
 rfl
theorem pg {N : Nat} {r1 r2 r3 r4 r5 r6 r7 r9 r10 r11 r12 : Int} {r8 : Bool} {r0 : ByteArray} {r13 : Rows} {L : Rows} {k : Int} (hN : 2097152 < N) (hs : r0.size ≤ 1048576) (h13 : r13.length ≤ 1048576) (hL : L.length ≤ 1000000) : Kn N [.str r0, .int r1, .int r2, .int r3, .int r4, .int r5, .int r6, .int r7, .bool r8, .int r9, .int r10, .int r11, .int r12, .rows r13, .rows L, .int k] = some (B3 (Zr (⟨r0, r1, r2, r3, r4, r5, r6, r7, r8, r9, r10, r11, r12, r13⟩ : Rul) L k)) := by
 show J9 (std (Dm N) N) (xOf _) = _
 generalize hres : (some (B3 (Zr (⟨r0, r1, r2, r3, r4, r5, r6, r7, r8, r9, r10, r11, r12, r13⟩ : Rul) L k)) : Option (List PV)) = RR
 simp only [J9, XI, Vb, std, xOf, PXb, XQ hN hs h13 (show L.length ≤ 1048576 by omega), List.nil_append, PXc]
 subst hres
 unfold Zr
 cases hx : !BD (⟨r0, r1, r2, r3, r4, r5, r6, r7, r8, r9, r10, r11, r12, r13⟩ : Rul) L == 0 || iLt k 0 || iLe (L.length : Int) k
 case true => rfl
 obtain ⟨h1, h2, h3⟩ := jH hx
 have hw : IntKind.i64.wrap (k + 1) = k + 1 := DG (by omega) (by omega)
 have hl := nO h2 h3 (by omega)
 have fl := oD L k
 have g1 := aW (L := L) h2 (by omega)
 have g2 := fc (L := L) (k := IntKind.i64.wrap (k + 1)) (by omega) (by omega)
 have s1 : iSm ((Cs L k).length : Int) 136 = true := Dd (by omega) (by omega)
 have s2 : iSm ((Cs L k ++ Ib L (IntKind.i64.wrap (k + 1))).length : Int) 136 = true := Dd (by show (Sk L k).length ≤ _; omega) (by omega)
 unfold Cs at s1
 unfold Cs Ib at s2
 have ch : Bi N [.str r0, .int r1, .int r2, .int r3, .int r4, .int r5, .int r6, .int r7, .bool r8, .int r9, .int r10, .int r11, .int r12, .rows r13, .rows (Sk L k)] = some (B3 (KF (⟨r0, r1, r2, r3, r4, r5, r6, r7, r8, r9, r10, r11, r12, r13⟩ : Rul) (Sk L k))) := S8 hN hs h13 (by omega)
 unfold Sk Cs Ib at ch
 simp only [g1, g2, s1, s2, ch, B3, PXb, PXc, Sk, Cs, Ib]
theorem rV {N : Nat} {r1 r2 r3 r4 r5 r6 r7 r9 r10 r11 r12 : Int} {r8 : Bool} {r0 : ByteArray} {r13 : Rows} {L : Rows} {k : Int} {e0 e1 e2 e3 e5 e6 e7 e8 e9 e10 e11 e13 e14 e15 e16 e18 : Int} {e4 e12 e17 : Bool} (hN : 2097152 < N) (hs : r0.size ≤ 1048576) (h13 : r13.length ≤ 1048576) (hL : L.length ≤ 1000000) : KE N [.str r0, .int r1, .int r2, .int r3, .int r4, .int r5, .int r6, .int r7, .bool r8, .int r9, .int r10, .int r11, .int r12, .rows r13, .rows L, .int k, .int e0, .int e1, .int e2, .int e3, .bool e4, .int e5, .int e6, .int e7, .int e8, .int e9, .int e10, .int e11, .bool e12, .int e13, .int e14, .int e15, .int e16, .bool e17, .int e18] = some (B3 (ZO (⟨r0, r1, r2, r3, r4, r5, r6, r7, r8, r9, r10, r11, r12, r13⟩ : Rul) L k (⟨e0, e1, e2, e3, e4, e5, e6, ⟨e7, e8, e9, e10, e11, e12, e13, e14, e15, e16, e17, e18⟩⟩ : Ev))) := by
 show Kp (std (Du N) N) (xOf _) = _
 generalize hres : (some (B3 (ZO (⟨r0, r1, r2, r3, r4, r5, r6, r7, r8, r9, r10, r11, r12, r13⟩ : Rul) L k (⟨e0, e1, e2, e3, e4, e5, e6, ⟨e7, e8, e9, e10, e11, e12, e13, e14, e15, e16, e17, e18⟩⟩ : Ev))) : Option (List PV)) = RR
 simp only [Kp, Xd, VK, std, xOf, PXb, XQ hN hs h13 (show L.length ≤ 1048576 by omega), List.nil_append, List.append_assoc, PXc]
 subst hres
 unfold ZO
 cases hx : !BD (⟨r0, r1, r2, r3, r4, r5, r6, r7, r8, r9, r10, r11, r12, r13⟩ : Rul) L == 0 || iLt k 0 || iLt (L.length : Int) k
 case true => rfl
 obtain ⟨h1, h2, h3⟩ := dU hx
 have hl := nT (⟨e0, e1, e2, e3, e4, e5, e6, ⟨e7, e8, e9, e10, e11, e12, e13, e14, e15, e16, e17, e18⟩⟩ : Ev) h2 h3
 have fl := oD L k
 have g1 := aW (L := L) h2 h3
 have g2 := fc (L := L) h2 h3
 have s1 : iSm ((Cs L k).length : Int) 136 = true := Dd (by omega) (by omega)
 have s2 : iSm ((Cs L k ++ [Sv (⟨e0, e1, e2, e3, e4, e5, e6, ⟨e7, e8, e9, e10, e11, e12, e13, e14, e15, e16, e17, e18⟩⟩ : Ev)]).length : Int) 136 = true := Dd (by rw [List.length_append]; show _ + 1 ≤ _; omega) (by omega)
 have s3 : iSm ((Cs L k ++ ([Sv (⟨e0, e1, e2, e3, e4, e5, e6, ⟨e7, e8, e9, e10, e11, e12, e13, e14, e15, e16, e17, e18⟩⟩ : Ev)] ++ Ib L k)).length : Int) 136 = true := Dd (by show (Va L k (⟨e0, e1, e2, e3, e4, e5, e6, ⟨e7, e8, e9, e10, e11, e12, e13, e14, e15, e16, e17, e18⟩⟩ : Ev)).length ≤ _; omega) (by omega)
 unfold Cs at s1 s2
 unfold Cs Ib at s3
 have ch : Bi N [.str r0, .int r1, .int r2, .int r3, .int r4, .int r5, .int r6, .int r7, .bool r8, .int r9, .int r10, .int r11, .int r12, .rows r13, .rows (Va L k (⟨e0, e1, e2, e3, e4, e5, e6, ⟨e7, e8, e9, e10, e11, e12, e13, e14, e15, e16, e17, e18⟩⟩ : Ev))] = some (B3 (KF (⟨r0, r1, r2, r3, r4, r5, r6, r7, r8, r9, r10, r11, r12, r13⟩ : Rul) (Va L k (⟨e0, e1, e2, e3, e4, e5, e6, ⟨e7, e8, e9, e10, e11, e12, e13, e14, e15, e16, e17, e18⟩⟩ : Ev)))) := S8 hN hs h13 (by omega)
 unfold Va Cs Ib at ch
 simp only [Sv, Del.ls, List.cons_append, List.nil_append] at s2 s3 ch
 simp only [List.cons_append, List.nil_append, g1, g2, s1, s2, s3, ch, B3, PXb, PXc]
 rfl
theorem mg (r : Rul) (L : Rows) : (KF r L).1.length ≤ L.length := by
 unfold KF
 cases (Bq r L).2.2 == 0
 ·exact Nat.zero_le _
 ·exact Nat.le_refl _
theorem zY (r : Rul) (L : Rows) (k : Int) (e : Ev) : (edS r L k e).1.length ≤ L.length := by
 unfold edS
 cases !(BD r L == 0) || iLt k 0 || iLe (L.length : Int) k
 ·exact Nat.le_trans (mg _ _) (by rw [dL]; exact Nat.le_refl _)
 ·exact Nat.zero_le _
theorem y3 {r : Rul} {L : Rows} {k : Int} (hl : L.length ≤ 1000000) : (Zr r L k).1.length ≤ L.length := by
 unfold Zr
 cases hx : !(BD r L == 0) || iLt k 0 || iLe (L.length : Int) k
 ·obtain ⟨h1, h2, h3⟩ := jH hx
  exact Nat.le_trans (mg _ _) (by rw [nO h2 h3 (by omega)]; omega)
 ·exact Nat.zero_le _
theorem zG {r : Rul} {L : Rows} {k : Int} (e : Ev) : (ZO r L k e).1.length ≤ L.length + 1 := by
 unfold ZO
 cases hx : !(BD r L == 0) || iLt k 0 || iLt (L.length : Int) k
 ·obtain ⟨h1, h2, h3⟩ := dU hx
  exact Nat.le_trans (mg _ _) (by rw [nT e h2 h3]; omega)
 ·exact Nat.zero_le _
theorem dY {N : Nat} {r1 r2 r3 r4 r5 r6 r7 r9 r10 r11 r12 : Int} {r8 : Bool} {r0 : ByteArray} {r13 : Rows} {L : Rows} {k : Int} {e0 e1 e2 e3 e5 e6 e7 e8 e9 e10 e11 e13 e14 e15 e16 e18 : Int} {e4 e12 e17 : Bool} (ha : JP N [] = some [.bool true]) (hN : 2097152 < N) (hs : r0.size ≤ 1048576) (h13 : r13.length ≤ 1048576) : EG N [.str r0, .int r1, .int r2, .int r3, .int r4, .int r5, .int r6, .int r7, .bool r8, .int r9, .int r10, .int r11, .int r12, .rows r13, .rows L, .int k, .int e0, .int e1, .int e2, .int e3, .bool e4, .int e5, .int e6, .int e7, .int e8, .int e9, .int e10, .int e11, .bool e12, .int e13, .int e14, .int e15, .int e16, .bool e17, .int e18] = some [.bool true] := by
 show D2 (std (Al N) N) (xOf _) = _
 have l1 : (cut L 60).length ≤ 60 := zD L 60
 have l2 : (cut L 60).length ≤ 1000000 := by omega
 have b1 := zY (⟨r0, r1, r2, r3, r4, r5, r6, r7, r8, r9, r10, r11, r12, r13⟩ : Rul) (cut L 60) k (⟨e0, e1, e2, e3, e4, e5, e6, ⟨e7, e8, e9, e10, e11, e12, e13, e14, e15, e16, e17, e18⟩⟩ : Ev)
 have b2 := y3 (r := (⟨r0, r1, r2, r3, r4, r5, r6, r7, r8, r9, r10, r11, r12, r13⟩ : Rul)) (k := k) l2
 have b3 := zG (r := (⟨r0, r1, r2, r3, r4, r5, r6, r7, r8, r9, r10, r11, r12, r13⟩ : Rul)) (L := cut L 60) (k := k) (⟨e0, e1, e2, e3, e4, e5, e6, ⟨e7, e8, e9, e10, e11, e12, e13, e14, e15, e16, e17, e18⟩⟩ : Ev)
 simp only [D2, Qk, Lt, Sz, L0, PU, J2, L3, QE, QA, std, xOf, PXb, ha, wR, Ll hN hs h13 l2, oX hN hs h13 l2, jo hN hs h13 l2, rV hN hs h13 l2, jG hN hs h13 l2, pg hN hs h13 l2, B3, IL hN (show (edS (⟨r0, r1, r2, r3, r4, r5, r6, r7, r8, r9, r10, r11, r12, r13⟩ : Rul) (cut L 60) k (⟨e0, e1, e2, e3, e4, e5, e6, ⟨e7, e8, e9, e10, e11, e12, e13, e14, e15, e16, e17, e18⟩⟩ : Ev)).1.length ≤ 1048576 by omega), IL hN (show (ZO (⟨r0, r1, r2, r3, r4, r5, r6, r7, r8, r9, r10, r11, r12, r13⟩ : Rul) (cut L 60) k (⟨e0, e1, e2, e3, e4, e5, e6, ⟨e7, e8, e9, e10, e11, e12, e13, e14, e15, e16, e17, e18⟩⟩ : Ev)).1.length ≤ 1048576 by omega), IL hN (show (Zr (⟨r0, r1, r2, r3, r4, r5, r6, r7, r8, r9, r10, r11, r12, r13⟩ : Rul) (cut L 60) k).1.length ≤ 1048576 by omega), PXc, beq_self_eq_true]
end Go.Px
end
section
namespace Go.Proofs
open Go.Shelf
def Tryz.lays4_ren : Go.Shelf.Ren := ⟨fun | 4 => 37 | n => n, fun | 22 => 25 | 25 => 38 | n => n, fun n => n⟩
theorem xP {P : Program} {f : FuncId} {F B : Func} (h : P.funcs[f]? = some F) (hn : (F.name == "runtime.NumGoroutine") = false) (hb : F = { B with name := F.name }) : Bears P f B := ⟨F.name, hn, h.trans (congrArg some hb)⟩
theorem Tryz.lays4 : Lays8.n4 Tryz.prog Tryz.lays4_ren := {
  mixed := by kernel_rfl
  f4 := xP Tryz.func37 (by kernel_rfl) (by kernel_rfl)
  t0 := Tryz.underlying0
  a0 := Tryz.isAgg0
  z0 := Tryz.sizeOf0
  v0 := Tryz.zeroValue0
  t3 := Tryz.underlying3
  a3 := Tryz.isAgg3
  z3 := Tryz.sizeOf3
  v3 := Tryz.zeroValue3
  t4 := Tryz.underlying4
  a4 := Tryz.isAgg4
  z4 := Tryz.sizeOf4
  v4 := Tryz.zeroValue4
  t9 := Tryz.underlying9
  a9 := Tryz.isAgg9
  z9 := Tryz.sizeOf9
  v9 := Tryz.zeroValue9
  t20 := Tryz.underlying20
  a20 := Tryz.isAgg20
  z20 := Tryz.sizeOf20
  v20 := Tryz.zeroValue20
  t22 := Tryz.underlying25
  a22 := Tryz.isAgg25
  z22 := Tryz.sizeOf25
  v22 := Tryz.zeroValue25 }
end Go.Proofs
end
