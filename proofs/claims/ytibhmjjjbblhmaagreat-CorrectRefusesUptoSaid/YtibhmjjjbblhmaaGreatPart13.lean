/- Part 13. -/
import Derived.Test.YtibhmjjjbblhmaaGreatPart12
import Derived.Shelf.Spec.SlicesGrow
import Derived.Test.YtibhmjjjbblhmaaGreatProg
set_option linter.unusedVariables false
set_option linter.unusedSimpArgs false
section
namespace Go.Px
set_option maxRecDepth 100000
def R8 (L : Rows) (k : Int) : Rows := (L.take L.length).drop k.toNat
theorem ig (L : Rows) (k : Int) : R8 L k = L.drop k.toNat := by
 unfold R8
 rw [List.take_length]
theorem cJ (L : Rows) (k : Int) : B0 L k = L.take k.toNat := rfl
def Bx (L : Rows) (k : Int) : Rows := B0 L k ++ R8 L (IntKind.i64.wrap (k + 1))
theorem RZ {L : Rows} {k : Int} (h0 : 0 ≤ k) (h : k < (L.length : Int)) (hl : L.length ≤ 1000001) : (Bx L k).length = L.length - 1 := by
 unfold Bx
 rw [List.length_append, cJ, ig, List.length_take, List.length_drop, Dk (by omega) (by omega)]
 omega
theorem jT {L : Rows} {k : Int} (h0 : 0 ≤ k) (h : k < (L.length : Int)) {i : Nat} (hi : (i : Int) < k) (j : Nat) : AH (Bx L k) i j = AH L i j := by
 unfold AH Az Bx
 rw [cJ, List.getD_eq_getElem?_getD, List.getD_eq_getElem?_getD, List.getElem?_append_left (by rw [List.length_take]; omega), List.getElem?_take, if_pos (by omega)]
theorem jV {L : Rows} {k : Int} (h0 : 0 ≤ k) (h : k < (L.length : Int)) {i : Nat} (hi : (i : Int) < k) : evR (Bx L k) i = evR L i := by
 unfold evR atI atB
 simp only [jT h0 h hi]
def JI (r : Rul) (L : Rows) (k : Int) : Rows × Int × Int := cond (!(A0 r L == 0) || iLt k 0 || iLe (L.length : Int) k) ([], -1, 1) (H6 r (Bx L k))
theorem fO {r : Rul} {L : Rows} (h : (A0 r L == 0) = true) : (Ay r == 0) = true ∧ iLt 4000 (L.length : Int) = false ∧ ((Ax r L).2.2 == 0) = true := by
 unfold A0 at h
 cases h1 : Ay r == 0 with
 | false => rw [h1] at h; exact absurd (show (Ay r == 0) = true from h) (by rw [h1]; decide)
 | true =>
  rw [h1] at h
  cases h2 : iLt 4000 (L.length : Int) with
  | true => rw [h2] at h; cases h
  | false =>
   rw [h2] at h
   cases h3 : (Ax r L).2.2 == 0 with
   | false => rw [h3] at h; cases h
   | true => exact ⟨rfl, rfl, rfl⟩
theorem gX {r : Rul} {L : Rows} (h1 : (Ay r == 0) = true) (h2 : L.length ≤ 4000) (h3 : ((Ax r L).2.2 == 0) = true) : A0 r L = 0 := by
 unfold A0
 have : iLt 4000 (L.length : Int) = false := by simp only [iLt, decide_eq_false_iff_not]; omega
 rw [h1, this, h3]
 rfl
theorem fW {r : Rul} {L : Rows} (h : ((Ax r L).2.2 == 0) = true) : H6 r L = (L, -1, 0) := by unfold H6; rw [h]; rfl
theorem iq {r : Rul} {L : Rows} (h : ((H6 r L).2.2 == 0) = true) : H6 r L = (L, -1, 0) ∧ ((Ax r L).2.2 == 0) = true := by
 cases h3 : (Ax r L).2.2 == 0 with
 | true => exact ⟨fW h3, rfl⟩
 | false =>
  unfold H6 at h
  rw [h3] at h
  exact absurd (show ((Ax r L).2.2 == 0) = true from h) (by rw [h3]; decide)
theorem guard_ok {r : Rul} {L : Rows} {k : Int} (h : (A0 r L == 0) = true) (h0 : 0 ≤ k) (h1 : k < (L.length : Int)) : (!(A0 r L == 0) || iLt k 0 || iLe (L.length : Int) k) = false := by
 simp only [Bool.or_eq_false_iff, iLt, iLe, decide_eq_false_iff_not, h, Bool.not_true, true_and]
 omega
theorem Wu {r : Rul} {L : Rows} {k : Int} (h : (!(A0 r L == 0) || iLt k 0 || iLe (L.length : Int) k) = false) : (A0 r L == 0) = true ∧ 0 ≤ k ∧ k < (L.length : Int) := by
 simp only [Bool.or_eq_false_iff, iLt, iLe, decide_eq_false_iff_not, Bool.not_eq_false'] at h
 exact ⟨h.1.1, by omega, by omega⟩
theorem iR {r : Rul} {L : Rows} {k : Int} (hl : L.length ≤ 1000) (h : ((JI r L k).2.2 == 0) = true) :
    JI r L k = (Bx L k, -1, 0) ∧ 0 ≤ k ∧ k < (L.length : Int) ∧ A0 r (Bx L k) = 0 := by
  unfold JI at h ⊢
  cases hx : !(A0 r L == 0) || iLt k 0 || iLe (L.length : Int) k with
  | true => rw [hx] at h; exact absurd (show ((1 : Int) == 0) = true from h) (by decide)
  | false =>
    rw [hx] at h
    obtain ⟨h1, h2, h3⟩ := Wu hx
    obtain ⟨h4, h5⟩ := iq h
    exact ⟨h4, h2, h3, gX (fO h1).1 (by rw [RZ h2 h3 (by omega)]; omega) h5⟩
theorem bM {L : Rows} : ∀ k i m, acc L (k + 1) i m → ((Au ((i + k : Nat) : Int) (stM L k i m) (evR L (i + k))).2 == 0) = true
 | 0, i, m, h => h.1
 | k + 1, i, m, h => by
  have := bM k (i + 1) _ h.2
  rw [show i + 1 + k = i + (k + 1) by omega] at this
  exact this
theorem dN {A B : Rows} (m : Mat) : ∀ j, (∀ i, i < j → evR A i = evR B i) → stM A j 0 m = stM B j 0 m
 | 0, _ => rfl
 | j + 1, h => by rw [SV, SV, dN m j (fun i hi => h i (by omega)), Nat.zero_add, h j (by omega)]
theorem ik {r : Rul} {L : Rows} {k : Int} (hl : L.length ≤ 60) (hc : (A0 r L == 0) = true) (h0 : 0 ≤ k) (h1 : k < (L.length : Int)) (h : ((Ax r (Bx L k)).2.2 == 0) = false) :
    ∃ j : Nat, (Ax r (Bx L k)).2.1 = (j : Int) ∧ k ≤ (j : Int) ∧ j < (Bx L k).length ∧ A0 r (B0 (Bx L k) (j : Int)) = 0 ∧ A0 r (B0 (Bx L k) ((j + 1 : Nat) : Int)) = 10 := by
  obtain ⟨c1, c2⟩ := Up hc
  have len := RZ h0 h1 (by omega)
  have ev := fun (i : Nat) (hi : (i : Int) < k) => jV h0 h1 hi
  generalize Bx L k = B at *
  have hn := (PO r).trans c1
  have hr : Ax r B = CB B B.length 0 (B1 r).1 := by unfold Ax; rw [hn]; rfl
  obtain ⟨j, hj, ha, _, hf⟩ := Wj B B.length 0 (B1 r).1
  rw [Nat.zero_add] at hf
  rcases hf with ⟨hf, hf2⟩ | ⟨hf, hf2, hf3⟩
  · rw [hr, hf2] at h; cases h
  · have hjk : k ≤ (j : Int) := by
      rcases Int.lt_or_le (j : Int) k with hlt | hge
      · have h5 := bM j 0 _ (bk L.length (j + 1) 0 _ (by omega) c2)
        rw [Nat.zero_add, ← dN (A := B) (B := L) _ j (fun i hi => ev i (by omega)), ← ev j hlt, hf2] at h5
        cases h5
      · exact hge
    refine ⟨j, by rw [hr, hf3], hjk, hf, ef c1 (by omega) (by omega) ha, ?_⟩
    unfold A0
    have h6 : iLt 4000 (((B0 B ((j + 1 : Nat) : Int)).length : Nat) : Int) = false := by
      rw [So (by omega)]
      simp only [iLt, decide_eq_false_iff_not]
      omega
    rw [c1, h6, Tn hn (by omega), aJ ha (Nat.lt_succ_self j) hf2, hf2]
    rfl
def du (xs : List Rows) : Rows := xs.map fun x => [.rows x]
theorem gb (xs : List Rows) : (du xs).length = xs.length := List.length_map _
theorem jZ (xs : List Rows) (i : Nat) : pvL (AH (du xs) i 0) = xs.getD i [] := by
 unfold AH Az du
 rw [List.getD_eq_getElem?_getD, List.getD_eq_getElem?_getD, List.getElem?_map]
 cases xs[i]? <;> rfl
def E1 (xs : List Rows) : Nat → Rows
 | 0 => []
 | i + 1 => E1 xs i ++ xs.getD i []
theorem Z9 (xs : List Rows) {i : Nat} : ∀ n, i ≤ n → (E1 xs i).length ≤ (E1 xs n).length
 | 0, h => by rw [Nat.le_zero.1 h]; exact Nat.le_refl _
 | n + 1, h => by
  rcases Nat.lt_or_ge n i with h1 | h1
  ·rw [show i = n + 1 by omega]; exact Nat.le_refl _
  ·refine Nat.le_trans (Z9 xs n h1) ?_
   rw [E1, List.length_append]
   omega
set_option maxHeartbeats 2000000 in
theorem RT {N : Nat} {xs : List Rows} (hN : 2097152 < N) (hx : xs.length ≤ 1000) (hs : (E1 xs xs.length).length ≤ 1048576) : As N [.rows (du xs)] = some [.rows (E1 xs xs.length)] := by
 show CW (std (BZ N) N) (xOf _) = _
 simp only [CW, HG, std, xOf, PXb, gb]
 refine AZ (IY (len := xs.length) (fun i => [.int ((E1 xs i).length : Int), .int (i : Int)]) [.int ((E1 xs xs.length).length : Int)] ?_ ?_ N (by omega)) ?_
 ·intro self
  simp only [PXb, PXc, PXn, AD, BM]
 ·intro i self hi
  have h1 := Z9 xs (i := i + 1) xs.length (by omega)
  have h2 : ((E1 xs i).length : Int) + ((xs.getD i []).length : Int) = ((E1 xs (i + 1)).length : Int) := by rw [E1, List.length_append]; omega
  have hw : IntKind.i64.wrap ((E1 xs (i + 1)).length : Int) = ((E1 xs (i + 1)).length : Int) := Dk (by omega) (by omega)
  have h3 : iLt ((E1 xs (i + 1)).length : Int) 0 = false := by simp only [iLt, decide_eq_false_iff_not]; omega
  simp only [PXb, PXc, PXn, AD, Ag (show i ≤ 1099511627776 by omega), A4 hi, Ae hi, jZ, h2, hw, h3]
  rfl
 ·have hg : Er N [.rows [], .int ((E1 xs xs.length).length : Int)] = some [.rows []] := by
   show VB _ = _
   unfold VB
   have h1 : Nat.ble ((E1 xs xs.length).length : Int).toNat 1048576 = true := Nat.ble_eq_true_of_le (by omega)
   have h2 : decide (0 ≤ ((E1 xs xs.length).length : Int)) = true := decide_eq_true (by omega)
   simp only [h1, h2]
   rfl
  simp only [PXb, PXc, hg]
  refine AZ (IY (len := xs.length) (fun i => [.rows (E1 xs i), .int (i : Int)]) [.rows (E1 xs xs.length)] ?_ ?_ N (by omega)) ?_
  ·intro self
   simp only [PXb, PXc, PXn, AD, BM]
  ·intro i self hi
   have h1 := Z9 xs (i := i + 1) xs.length (by omega)
   have h136 : iSm (((E1 xs i ++ xs.getD i []).length : Nat) : Int) 136 = true := Jt (by rw [show E1 xs i ++ xs.getD i [] = E1 xs (i + 1) from rfl]; omega) (by omega)
   simp only [PXb, PXc, PXn, AD, Ag (show i ≤ 1099511627776 by omega), A4 hi, Ae hi, jZ, h136]
   rfl
  ·rfl
theorem dT {N : Nat} {A B : Rows} (hN : 2097152 < N) (h : (A ++ B).length ≤ 1048576) : As N [.rows [[.rows A], [.rows B]]] = some [.rows (A ++ B)] :=
 RT (xs := [A, B]) hN (by show 2 ≤ 1000; omega) h
theorem SC {k : Int} {L : Rows} (h0 : 0 ≤ k) (h : k ≤ (L.length : Int)) : iRg 0 k (L.length : Int) = true := by simp only [iRg, Bool.and_eq_true, decide_eq_true_eq]; omega
theorem dJ {k : Int} {L : Rows} (h0 : 0 ≤ k) (h : k ≤ (L.length : Int)) : iRg k (L.length : Int) (L.length : Int) = true := by simp only [iRg, Bool.and_eq_true, decide_eq_true_eq]; omega
theorem Wo {N : Nat} {r1 r2 r3 r4 r5 r6 r7 r9 r10 r11 r12 : Int} {r8 : Bool} {r0 : ByteArray} {r13 : Rows} {L : Rows} {k : Int} (hN : 2097152 < N) (hs : r0.size ≤ 1048576) (h13 : r13.length ≤ 1048576) (hL : L.length ≤ 1000000) : EZ N [.str r0, .int r1, .int r2, .int r3, .int r4, .int r5, .int r6, .int r7, .bool r8, .int r9, .int r10, .int r11, .int r12, .rows r13, .rows L, .int k] = some (I0 (JI (⟨r0, r1, r2, r3, r4, r5, r6, r7, r8, r9, r10, r11, r12, r13⟩ : Rul) L k)) := by
 show ER (std (BW N) N) (xOf _) = _
 generalize hres : (some (I0 (JI (⟨r0, r1, r2, r3, r4, r5, r6, r7, r8, r9, r10, r11, r12, r13⟩ : Rul) L k)) : Option (List PV)) = RR
 simp only [ER, Ni, IA, KS, std, xOf, PXb, EB hN hs h13 (show L.length ≤ 1048576 by omega), PXc]
 subst hres
 unfold JI
 cases hx : !A0 (⟨r0, r1, r2, r3, r4, r5, r6, r7, r8, r9, r10, r11, r12, r13⟩ : Rul) L == 0 || iLt k 0 || iLe (L.length : Int) k
 case true => rfl
 obtain ⟨h1, h2, h3⟩ := Wu hx
 have hw : IntKind.i64.wrap (k + 1) = k + 1 := Dk (by omega) (by omega)
 have hl := RZ h2 h3 (by omega)
 have g1 := SC (L := L) h2 (by omega)
 have g2 := dJ (L := L) (k := IntKind.i64.wrap (k + 1)) (by omega) (by omega)
 have cc : As N [.rows [[.rows (B0 L k)], [.rows (R8 L (IntKind.i64.wrap (k + 1)))]]] = some [.rows (Bx L k)] := dT hN (by show (Bx L k).length ≤ _; omega)
 unfold B0 R8 at cc
 have ch : BR N [.str r0, .int r1, .int r2, .int r3, .int r4, .int r5, .int r6, .int r7, .bool r8, .int r9, .int r10, .int r11, .int r12, .rows r13, .rows (Bx L k)] = some (I0 (H6 (⟨r0, r1, r2, r3, r4, r5, r6, r7, r8, r9, r10, r11, r12, r13⟩ : Rul) (Bx L k))) := OJ hN hs h13 (by omega)
 simp only [g1, g2, cc, ch, I0, PXb, PXc]
theorem fC {N : Nat} {L : Rows}  : M9 N [.rows L] = some [.rows (cut L 60)] := by
 show NO (std (JT N) N) (xOf _) = _
 simp only [NO, std, xOf, PXb, PXc, PXn, PXm, Nat.reduceAdd, Int.reduceBEq, kE (show (0 : Int) ≤ 60 by omega)]
 rfl
set_option maxHeartbeats 2000000 in
theorem Sc {N : Nat} {r1 r2 r3 r4 r5 r6 r7 r9 r10 r11 r12 : Int} {r8 : Bool} {r0 : ByteArray} {r13 : Rows} {L : Rows} {k : Int} {e0 e1 e2 e3 e5 e6 e7 e8 e9 e10 e11 e13 e14 e15 e16 e18 : Int} {e4 e12 e17 : Bool} (ha : HQ N [] = some [.bool true]) (hN : 2097152 < N) (hs : r0.size ≤ 1048576) (h13 : r13.length ≤ 1048576) : Cf N [.str r0, .int r1, .int r2, .int r3, .int r4, .int r5, .int r6, .int r7, .bool r8, .int r9, .int r10, .int r11, .int r12, .rows r13, .rows L, .int k, .int e0, .int e1, .int e2, .int e3, .bool e4, .int e5, .int e6, .int e7, .int e8, .int e9, .int e10, .int e11, .bool e12, .int e13, .int e14, .int e15, .int e16, .bool e17, .int e18] = some [.bool true] := by
 show Cl (std (Al N) N) (xOf _) = _
 have l1 : (cut L 60).length ≤ 60 := jg L 60
 simp only [Cl, Ld, MC, Ix, Kw, Gn, std, xOf, PXb, ha, fC, Wo hN hs h13 (show (cut L 60).length ≤ 1000000 by omega), I0, PXc]
 generalize cut L 60 = A at *
 cases hx : (JI (⟨r0, r1, r2, r3, r4, r5, r6, r7, r8, r9, r10, r11, r12, r13⟩ : Rul) A k).2.2 == 0
 case true =>
  obtain ⟨q1, k0, k1, ck⟩ := iR (by omega) hx
  have hl := RZ k0 k1 (by omega)
  have d1 : (JI (⟨r0, r1, r2, r3, r4, r5, r6, r7, r8, r9, r10, r11, r12, r13⟩ : Rul) A k).1 = Bx A k := by rw [q1]
  have d2 : (JI (⟨r0, r1, r2, r3, r4, r5, r6, r7, r8, r9, r10, r11, r12, r13⟩ : Rul) A k).2.1 = -1 := by rw [q1]
  have hz : IntKind.i64.wrap ((A.length : Int) - 1) = ((Bx A k).length : Int) := by
   rw [hl, Dk (by omega) (by omega)]
   omega
  simp only [PXb, PXc, hx, d1, d2, hz, beq_self_eq_true, EB hN hs h13 (show (Bx A k).length ≤ 1048576 by omega), ck]
 cases hg : !(A0 (⟨r0, r1, r2, r3, r4, r5, r6, r7, r8, r9, r10, r11, r12, r13⟩ : Rul) A == 0) || iLt k 0 || iLe (A.length : Int) k
 case true =>
  have q1 : JI (⟨r0, r1, r2, r3, r4, r5, r6, r7, r8, r9, r10, r11, r12, r13⟩ : Rul) A k = ([], -1, 1) := by unfold JI; rw [hg]; rfl
  have d1 : (JI (⟨r0, r1, r2, r3, r4, r5, r6, r7, r8, r9, r10, r11, r12, r13⟩ : Rul) A k).1 = [] := by rw [q1]
  have d2 : (JI (⟨r0, r1, r2, r3, r4, r5, r6, r7, r8, r9, r10, r11, r12, r13⟩ : Rul) A k).2.1 = -1 := by rw [q1]
  have d3 : (JI (⟨r0, r1, r2, r3, r4, r5, r6, r7, r8, r9, r10, r11, r12, r13⟩ : Rul) A k).2.2 = 1 := by rw [q1]
  have y1 : ((1 : Int) == 0) = false := rfl
  have y2 : iLt 0 (([] : Rows).length : Int) = false := rfl
  have y3 : iLe 0 (-1) = false := rfl
  have y4 : iLt (-1) 0 = true := rfl
  simp only [PXb, PXc, d1, d2, d3, y1, y2, y3, y4, beq_self_eq_true, EB hN hs h13 (show A.length ≤ 1048576 by omega), hg]
 obtain ⟨h1, h2, h3⟩ := Wu hg
 have q1 : JI (⟨r0, r1, r2, r3, r4, r5, r6, r7, r8, r9, r10, r11, r12, r13⟩ : Rul) A k = H6 (⟨r0, r1, r2, r3, r4, r5, r6, r7, r8, r9, r10, r11, r12, r13⟩ : Rul) (Bx A k) := by unfold JI; rw [hg]; rfl
 rw [q1] at hx
 have hb : ((Ax (⟨r0, r1, r2, r3, r4, r5, r6, r7, r8, r9, r10, r11, r12, r13⟩ : Rul) (Bx A k)).2.2 == 0) = false := by
  cases h : (Ax (⟨r0, r1, r2, r3, r4, r5, r6, r7, r8, r9, r10, r11, r12, r13⟩ : Rul) (Bx A k)).2.2 == 0 with
  | false => rfl
  | true => rw [fW h] at hx; cases hx
 obtain ⟨j, j1, j2, j3, j4, j5⟩ := ik l1 h1 h2 h3 hb
 have d1 : (H6 (⟨r0, r1, r2, r3, r4, r5, r6, r7, r8, r9, r10, r11, r12, r13⟩ : Rul) (Bx A k)).1 = [] := by unfold H6; rw [hb]; rfl
 have d2 : (H6 (⟨r0, r1, r2, r3, r4, r5, r6, r7, r8, r9, r10, r11, r12, r13⟩ : Rul) (Bx A k)).2.1 = (j : Int) := by unfold H6; rw [hb]; exact j1
 have y2 : iLt 0 (([] : Rows).length : Int) = false := rfl
 have y3 : iLt (j : Int) k = false := by simp only [iLt, decide_eq_false_iff_not]; omega
 have y4 : iLt (j : Int) 0 = false := by simp only [iLt, decide_eq_false_iff_not]; omega
 have hw : IntKind.i64.wrap (k + 1) = k + 1 := Dk (by omega) (by omega)
 have hl := RZ h2 h3 (by omega)
 have g1 := SC (L := A) h2 (by omega)
 have g2 := dJ (L := A) (k := IntKind.i64.wrap (k + 1)) (by omega) (by omega)
 have cc : As N [.rows [[.rows (B0 A k)], [.rows (R8 A (IntKind.i64.wrap (k + 1)))]]] = some [.rows (Bx A k)] := dT hN (by show (Bx A k).length ≤ _; omega)
 unfold B0 R8 at cc
 have g3 := SC (L := Bx A k) (k := (j : Int)) (by omega) (by omega)
 have wj : IntKind.i64.wrap ((j : Int) + 1) = ((j + 1 : Nat) : Int) := Ag (by omega)
 have g4 := SC (L := Bx A k) (k := ((j + 1 : Nat) : Int)) (by omega) (by omega)
 have f1 := Y9 (Bx A k) (j : Int)
 have f2 := Y9 (Bx A k) ((j + 1 : Nat) : Int)
 have c1 : BS N [.str r0, .int r1, .int r2, .int r3, .int r4, .int r5, .int r6, .int r7, .bool r8, .int r9, .int r10, .int r11, .int r12, .rows r13, .rows (B0 (Bx A k) (j : Int))] = some [.int 0] := by rw [EB hN hs h13 (by omega), j4]
 have c2 : BS N [.str r0, .int r1, .int r2, .int r3, .int r4, .int r5, .int r6, .int r7, .bool r8, .int r9, .int r10, .int r11, .int r12, .rows r13, .rows (B0 (Bx A k) ((j + 1 : Nat) : Int))] = some [.int 10] := by rw [EB hN hs h13 (by omega), j5]
 generalize Bx A k = B at *
 unfold B0 at c1 c2
 simp only [Int.toNat_natCast] at c1 c2
 simp only [PXb, PXc, q1, d1, d2, hx, y2, y3, y4, g1, g2, cc, g3, c1, wj, g4, c2]
 rfl
end Go.Px
end
section
namespace Go.Proofs
open Go.Shelf
def Tryz.lays4_ren : Go.Shelf.Ren := ⟨fun | 4 => 37 | n => n, fun | 22 => 25 | 25 => 38 | n => n, fun n => n⟩
theorem gP {P : Program} {f : FuncId} {F B : Func} (h : P.funcs[f]? = some F) (hn : (F.name == "runtime.NumGoroutine") = false) (hb : F = { B with name := F.name }) : Bears P f B := ⟨F.name, hn, h.trans (congrArg some hb)⟩
theorem Tryz.lays4 : Lays8.n4 Tryz.prog Tryz.lays4_ren := {
  mixed := by kernel_rfl
  f4 := gP Tryz.func37 (by kernel_rfl) (by kernel_rfl)
  t0 := Tryz.underlying0
  a0 := Tryz.isAgg0
  z0 := Tryz.sizeOf0
  v0 := Tryz.zeroValue0
  t3 := Tryz.underlying3
  a3 := Tryz.isAgg3
  z3 := Tryz.sizeOf3
  v3 := Tryz.zeroValue3
  t4 := Tryz.underlying4
  a4 := Tryz.isAgg4
  z4 := Tryz.sizeOf4
  v4 := Tryz.zeroValue4
  t9 := Tryz.underlying9
  a9 := Tryz.isAgg9
  z9 := Tryz.sizeOf9
  v9 := Tryz.zeroValue9
  t20 := Tryz.underlying20
  a20 := Tryz.isAgg20
  z20 := Tryz.sizeOf20
  v20 := Tryz.zeroValue20
  t22 := Tryz.underlying25
  a22 := Tryz.isAgg25
  z22 := Tryz.sizeOf25
  v22 := Tryz.zeroValue25 }
end Go.Proofs
end
