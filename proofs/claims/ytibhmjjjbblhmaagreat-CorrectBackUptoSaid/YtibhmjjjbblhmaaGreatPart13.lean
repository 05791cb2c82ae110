/- Part 13. -/
import Derived.Test.YtibhmjjjbblhmaaGreatPart12
import Derived.Shelf.Spec.SlicesGrow
import Derived.Test.YtibhmjjjbblhmaaGreatProg
set_option linter.unusedVariables false
set_option linter.unusedSimpArgs false
section
namespace Go.Px
set_option maxRecDepth 100000
def Qg (L : Rows) (k : Int) : Rows := (L.take L.length).drop k.toNat
theorem VY (L : Rows) (k : Int) : Qg L k = L.drop k.toNat := by
 unfold Qg
 rw [List.take_length]
theorem Sb (L : Rows) (k : Int) : PW L k = L.take k.toNat := rfl
def S6 (L : Rows) (k : Int) : Rows := PW L k ++ Qg L (IntKind.i64.wrap (k + 1))
def MQ (L : Rows) (k : Int) (e : Ev) : Rows := PW L k ++ ([Bx e] ++ Qg L k)
theorem jY {L : Rows} {k : Int} (h0 : 0 ≤ k) (h : k < (L.length : Int)) (hl : L.length ≤ 1000001) : (S6 L k).length = L.length - 1 := by
 unfold S6
 rw [List.length_append, Sb, VY, List.length_take, List.length_drop, EJ (by omega) (by omega)]
 omega
theorem ZK {L : Rows} {k : Int} (e : Ev) (h0 : 0 ≤ k) (h : k ≤ (L.length : Int)) : (MQ L k e).length = L.length + 1 := by
 unfold MQ
 rw [List.length_append, List.length_append, Sb, VY, List.length_take, List.length_drop]
 simp only [List.length_cons, List.length_nil]
 omega
theorem jG {L : Rows} {k : Int} (e : Ev) (h0 : 0 ≤ k) (h : k ≤ (L.length : Int)) (hl : L.length ≤ 1000000) : S6 (MQ L k e) k = L := by
 have hw : IntKind.i64.wrap (k + 1) = k + 1 := EJ (by omega) (by omega)
 have hk : (L.take k.toNat).length = k.toNat := by rw [List.length_take]; omega
 unfold S6
 rw [hw, Sb, VY]
 unfold MQ
 rw [Sb, VY, show (k + 1).toNat = k.toNat + 1 by omega]
 have h1 : List.take k.toNat (L.take k.toNat ++ ([Bx e] ++ L.drop k.toNat)) = L.take k.toNat := by
  rw [List.take_append_of_le_length (by omega), List.take_of_length_le (by omega)]
 have h2 : List.drop (k.toNat + 1) (L.take k.toNat ++ ([Bx e] ++ L.drop k.toNat)) = L.drop k.toNat := by
  rw [List.drop_append, hk, List.drop_of_length_le (by omega)]
  simp
 rw [h1, h2, List.take_append_drop]
def bT (r : Rul) (L : Rows) (k : Int) : Rows × Int × Int := cond (!(Aw r L == 0) || iLt k 0 || iLe (L.length : Int) k) ([], -1, 1) (Hf r (S6 L k))
def RA (r : Rul) (L : Rows) (k : Int) (e : Ev) : Rows × Int × Int := cond (!(Aw r L == 0) || iLt k 0 || iLt (L.length : Int) k) ([], -1, 1) (Hf r (MQ L k e))
theorem ZY {r : Rul} {L : Rows} (h : (Aw r L == 0) = true) : (A2 r == 0) = true ∧ iLt 4000 (L.length : Int) = false ∧ ((Bd r L).2.2 == 0) = true := by
 unfold Aw at h
 cases h1 : A2 r == 0 with
 | false => rw [h1] at h; exact absurd (show (A2 r == 0) = true from h) (by rw [h1]; decide)
 | true =>
  rw [h1] at h
  cases h2 : iLt 4000 (L.length : Int) with
  | true => rw [h2] at h; cases h
  | false =>
   rw [h2] at h
   cases h3 : (Bd r L).2.2 == 0 with
   | false => rw [h3] at h; cases h
   | true => exact ⟨rfl, rfl, rfl⟩
theorem ga {r : Rul} {L : Rows} (h1 : (A2 r == 0) = true) (h2 : L.length ≤ 4000) (h3 : ((Bd r L).2.2 == 0) = true) : Aw r L = 0 := by
 unfold Aw
 have : iLt 4000 (L.length : Int) = false := by simp only [iLt, decide_eq_false_iff_not]; omega
 rw [h1, this, h3]
 rfl
theorem gM {r : Rul} {L : Rows} (h : ((Bd r L).2.2 == 0) = true) : Hf r L = (L, -1, 0) := by unfold Hf; rw [h]; rfl
theorem jQ {r : Rul} {L : Rows} (h : ((Hf r L).2.2 == 0) = true) : Hf r L = (L, -1, 0) ∧ ((Bd r L).2.2 == 0) = true := by
 cases h3 : (Bd r L).2.2 == 0 with
 | true => exact ⟨gM h3, rfl⟩
 | false =>
  unfold Hf at h
  rw [h3] at h
  exact absurd (show ((Bd r L).2.2 == 0) = true from h) (by rw [h3]; decide)
theorem guard_ok {r : Rul} {L : Rows} {k : Int} (h : (Aw r L == 0) = true) (h0 : 0 ≤ k) (h1 : k < (L.length : Int)) : (!(Aw r L == 0) || iLt k 0 || iLe (L.length : Int) k) = false := by
 simp only [Bool.or_eq_false_iff, iLt, iLe, decide_eq_false_iff_not, h, Bool.not_true, true_and]
 omega
theorem iD {r : Rul} {L : Rows} {k : Int} (h : (!(Aw r L == 0) || iLt k 0 || iLe (L.length : Int) k) = false) : (Aw r L == 0) = true ∧ 0 ≤ k ∧ k < (L.length : Int) := by
 simp only [Bool.or_eq_false_iff, iLt, iLe, decide_eq_false_iff_not, Bool.not_eq_false'] at h
 exact ⟨h.1.1, by omega, by omega⟩
theorem Tw {r : Rul} {L : Rows} {k : Int} (h : (!(Aw r L == 0) || iLt k 0 || iLt (L.length : Int) k) = false) : (Aw r L == 0) = true ∧ 0 ≤ k ∧ k ≤ (L.length : Int) := by
 simp only [Bool.or_eq_false_iff, iLt, decide_eq_false_iff_not, Bool.not_eq_false'] at h
 exact ⟨h.1.1, by omega, by omega⟩
theorem i4 {r : Rul} {L : Rows} {k : Int} {e : Ev} (hl : L.length ≤ 1000) (h : ((RA r L k e).2.2 == 0) = true) :
    RA r L k e = (MQ L k e, -1, 0) ∧ 0 ≤ k ∧ k ≤ (L.length : Int) ∧ Aw r (MQ L k e) = 0 := by
  unfold RA at h ⊢
  cases hx : !(Aw r L == 0) || iLt k 0 || iLt (L.length : Int) k with
  | true => rw [hx] at h; exact absurd (show ((1 : Int) == 0) = true from h) (by decide)
  | false =>
    rw [hx] at h
    obtain ⟨h1, h2, h3⟩ := Tw hx
    obtain ⟨h4, h5⟩ := jQ h
    exact ⟨h4, h2, h3, ga (ZY h1).1 (by rw [ZK e h2 h3]; omega) h5⟩
def eN (xs : List Rows) : Rows := xs.map fun x => [.rows x]
theorem hC (xs : List Rows) : (eN xs).length = xs.length := List.length_map _
theorem j5 (xs : List Rows) (i : Nat) : pvL (AJ (eN xs) i 0) = xs.getD i [] := by
 unfold AJ Ax eN
 rw [List.getD_eq_getElem?_getD, List.getD_eq_getElem?_getD, List.getElem?_map]
 cases xs[i]? <;> rfl
def D6 (xs : List Rows) : Nat → Rows
 | 0 => []
 | i + 1 => D6 xs i ++ xs.getD i []
theorem cW (xs : List Rows) {i : Nat} : ∀ n, i ≤ n → (D6 xs i).length ≤ (D6 xs n).length
 | 0, h => by rw [Nat.le_zero.1 h]; exact Nat.le_refl _
 | n + 1, h => by
  rcases Nat.lt_or_ge n i with h1 | h1
  ·rw [show i = n + 1 by omega]; exact Nat.le_refl _
  ·refine Nat.le_trans (cW xs n h1) ?_
   rw [D6, List.length_append]
   omega
set_option maxHeartbeats 2000000 in
theorem Kv {N : Nat} {xs : List Rows} (hN : 2097152 < N) (hx : xs.length ≤ 1000) (hs : (D6 xs xs.length).length ≤ 1048576) : Al N [.rows (eN xs)] = some [.rows (D6 xs xs.length)] := by
 show CY (std (Bb N) N) (xOf _) = _
 simp only [CY, HF, std, xOf, PXb, hC]
 refine AZ (Gr (len := xs.length) (fun i => [.int ((D6 xs i).length : Int), .int (i : Int)]) [.int ((D6 xs xs.length).length : Int)] ?_ ?_ N (by omega)) ?_
 ·intro self
  simp only [PXb, PXc, PXn, AD, BK]
 ·intro i self hi
  have h1 := cW xs (i := i + 1) xs.length (by omega)
  have h2 : ((D6 xs i).length : Int) + ((xs.getD i []).length : Int) = ((D6 xs (i + 1)).length : Int) := by rw [D6, List.length_append]; omega
  have hw : IntKind.i64.wrap ((D6 xs (i + 1)).length : Int) = ((D6 xs (i + 1)).length : Int) := EJ (by omega) (by omega)
  have h3 : iLt ((D6 xs (i + 1)).length : Int) 0 = false := by simp only [iLt, decide_eq_false_iff_not]; omega
  simp only [PXb, PXc, PXn, AD, Ah (show i ≤ 1099511627776 by omega), A1 hi, Ad hi, j5, h2, hw, h3]
  rfl
 ·have hg : Eu N [.rows [], .int ((D6 xs xs.length).length : Int)] = some [.rows []] := by
   show VN _ = _
   unfold VN
   have h1 : Nat.ble ((D6 xs xs.length).length : Int).toNat 1048576 = true := Nat.ble_eq_true_of_le (by omega)
   have h2 : decide (0 ≤ ((D6 xs xs.length).length : Int)) = true := decide_eq_true (by omega)
   simp only [h1, h2]
   rfl
  simp only [PXb, PXc, hg]
  refine AZ (Gr (len := xs.length) (fun i => [.rows (D6 xs i), .int (i : Int)]) [.rows (D6 xs xs.length)] ?_ ?_ N (by omega)) ?_
  ·intro self
   simp only [PXb, PXc, PXn, AD, BK]
  ·intro i self hi
   have h1 := cW xs (i := i + 1) xs.length (by omega)
   have h136 : iSm (((D6 xs i ++ xs.getD i []).length : Nat) : Int) 136 = true := J6 (by rw [show D6 xs i ++ xs.getD i [] = D6 xs (i + 1) from rfl]; omega) (by omega)
   simp only [PXb, PXc, PXn, AD, Ah (show i ≤ 1099511627776 by omega), A1 hi, Ad hi, j5, h136]
   rfl
  ·rfl
theorem Ze (A B C : Rows) : D6 [A, B, C] 3 = A ++ (B ++ C) := List.append_assoc _ _ _
theorem jN {N : Nat} {A B : Rows} (hN : 2097152 < N) (h : (A ++ B).length ≤ 1048576) : Al N [.rows [[.rows A], [.rows B]]] = some [.rows (A ++ B)] :=
 Kv (xs := [A, B]) hN (by show 2 ≤ 1000; omega) h
theorem jW {N : Nat} {A B C : Rows} (hN : 2097152 < N) (h : (A ++ (B ++ C)).length ≤ 1048576) : Al N [.rows [[.rows A], [.rows B], [.rows C]]] = some [.rows (A ++ (B ++ C))] := by
 rw [← Ze]
 exact Kv (xs := [A, B, C]) hN (by show 3 ≤ 1000; omega) (by show (D6 [A, B, C] 3).length ≤ _; rw [Ze]; exact h)
theorem aW {k : Int} {L : Rows} (h0 : 0 ≤ k) (h : k ≤ (L.length : Int)) : iRg 0 k (L.length : Int) = true := by simp only [iRg, Bool.and_eq_true, decide_eq_true_eq]; omega
theorem dj {k : Int} {L : Rows} (h0 : 0 ≤ k) (h : k ≤ (L.length : Int)) : iRg k (L.length : Int) (L.length : Int) = true := by simp only [iRg, Bool.and_eq_true, decide_eq_true_eq]; omega
theorem XN {N : Nat} {r1 r2 r3 r4 r5 r6 r7 r9 r10 r11 r12 : Int} {r8 : Bool} {r0 : ByteArray} {r13 : Rows} {L : Rows} {k : Int} (hN : 2097152 < N) (hs : r0.size ≤ 1048576) (h13 : r13.length ≤ 1048576) (hL : L.length ≤ 1000000) : C3 N [.str r0, .int r1, .int r2, .int r3, .int r4, .int r5, .int r6, .int r7, .bool r8, .int r9, .int r10, .int r11, .int r12, .rows r13, .rows L, .int k] = some (Da (bT (⟨r0, r1, r2, r3, r4, r5, r6, r7, r8, r9, r10, r11, r12, r13⟩ : Rul) L k)) := by
 show Ek (std (BX N) N) (xOf _) = _
 generalize hres : (some (Da (bT (⟨r0, r1, r2, r3, r4, r5, r6, r7, r8, r9, r10, r11, r12, r13⟩ : Rul) L k)) : Option (List PV)) = RR
 simp only [Ek, OC, H3, Kc, std, xOf, PXb, HX hN hs h13 (show L.length ≤ 1048576 by omega), PXc]
 subst hres
 unfold bT
 cases hx : !Aw (⟨r0, r1, r2, r3, r4, r5, r6, r7, r8, r9, r10, r11, r12, r13⟩ : Rul) L == 0 || iLt k 0 || iLe (L.length : Int) k
 case true => rfl
 obtain ⟨h1, h2, h3⟩ := iD hx
 have hw : IntKind.i64.wrap (k + 1) = k + 1 := EJ (by omega) (by omega)
 have hl := jY h2 h3 (by omega)
 have g1 := aW (L := L) h2 (by omega)
 have g2 := dj (L := L) (k := IntKind.i64.wrap (k + 1)) (by omega) (by omega)
 have cc : Al N [.rows [[.rows (PW L k)], [.rows (Qg L (IntKind.i64.wrap (k + 1)))]]] = some [.rows (S6 L k)] := jN hN (by show (S6 L k).length ≤ _; omega)
 unfold PW Qg at cc
 have ch : Av N [.str r0, .int r1, .int r2, .int r3, .int r4, .int r5, .int r6, .int r7, .bool r8, .int r9, .int r10, .int r11, .int r12, .rows r13, .rows (S6 L k)] = some (Da (Hf (⟨r0, r1, r2, r3, r4, r5, r6, r7, r8, r9, r10, r11, r12, r13⟩ : Rul) (S6 L k))) := JO hN hs h13 (by omega)
 simp only [g1, g2, cc, ch, Da, PXb, PXc]
theorem W6 {N : Nat} {r1 r2 r3 r4 r5 r6 r7 r9 r10 r11 r12 : Int} {r8 : Bool} {r0 : ByteArray} {r13 : Rows} {L : Rows} {k : Int} {e0 e1 e2 e3 e5 e6 e7 e8 e9 e10 e11 e13 e14 e15 e16 e18 : Int} {e4 e12 e17 : Bool} (hN : 2097152 < N) (hs : r0.size ≤ 1048576) (h13 : r13.length ≤ 1048576) (hL : L.length ≤ 1000000) : Eh N [.str r0, .int r1, .int r2, .int r3, .int r4, .int r5, .int r6, .int r7, .bool r8, .int r9, .int r10, .int r11, .int r12, .rows r13, .rows L, .int k, .int e0, .int e1, .int e2, .int e3, .bool e4, .int e5, .int e6, .int e7, .int e8, .int e9, .int e10, .int e11, .bool e12, .int e13, .int e14, .int e15, .int e16, .bool e17, .int e18] = some (Da (RA (⟨r0, r1, r2, r3, r4, r5, r6, r7, r8, r9, r10, r11, r12, r13⟩ : Rul) L k (⟨e0, e1, e2, e3, e4, e5, e6, ⟨e7, e8, e9, e10, e11, e12, e13, e14, e15, e16, e17, e18⟩⟩ : Ev))) := by
 show Ei (std (BZ N) N) (xOf _) = _
 generalize hres : (some (Da (RA (⟨r0, r1, r2, r3, r4, r5, r6, r7, r8, r9, r10, r11, r12, r13⟩ : Rul) L k (⟨e0, e1, e2, e3, e4, e5, e6, ⟨e7, e8, e9, e10, e11, e12, e13, e14, e15, e16, e17, e18⟩⟩ : Ev))) : Option (List PV)) = RR
 simp only [Ei, N9, IK, Kf, std, xOf, PXb, HX hN hs h13 (show L.length ≤ 1048576 by omega), PXc]
 subst hres
 unfold RA
 cases hx : !Aw (⟨r0, r1, r2, r3, r4, r5, r6, r7, r8, r9, r10, r11, r12, r13⟩ : Rul) L == 0 || iLt k 0 || iLt (L.length : Int) k
 case true => rfl
 obtain ⟨h1, h2, h3⟩ := Tw hx
 have hl := ZK (⟨e0, e1, e2, e3, e4, e5, e6, ⟨e7, e8, e9, e10, e11, e12, e13, e14, e15, e16, e17, e18⟩⟩ : Ev) h2 h3
 have g1 := aW (L := L) h2 h3
 have g2 := dj (L := L) h2 h3
 have cc : Al N [.rows [[.rows (PW L k)], [.rows [Bx (⟨e0, e1, e2, e3, e4, e5, e6, ⟨e7, e8, e9, e10, e11, e12, e13, e14, e15, e16, e17, e18⟩⟩ : Ev)]], [.rows (Qg L k)]]] = some [.rows (MQ L k (⟨e0, e1, e2, e3, e4, e5, e6, ⟨e7, e8, e9, e10, e11, e12, e13, e14, e15, e16, e17, e18⟩⟩ : Ev))] := jW hN (by show (MQ L k (⟨e0, e1, e2, e3, e4, e5, e6, ⟨e7, e8, e9, e10, e11, e12, e13, e14, e15, e16, e17, e18⟩⟩ : Ev)).length ≤ _; omega)
 unfold PW Qg at cc
 simp only [Bx, Del.ls, List.cons_append, List.nil_append] at cc
 have ch : Av N [.str r0, .int r1, .int r2, .int r3, .int r4, .int r5, .int r6, .int r7, .bool r8, .int r9, .int r10, .int r11, .int r12, .rows r13, .rows (MQ L k (⟨e0, e1, e2, e3, e4, e5, e6, ⟨e7, e8, e9, e10, e11, e12, e13, e14, e15, e16, e17, e18⟩⟩ : Ev))] = some (Da (Hf (⟨r0, r1, r2, r3, r4, r5, r6, r7, r8, r9, r10, r11, r12, r13⟩ : Rul) (MQ L k (⟨e0, e1, e2, e3, e4, e5, e6, ⟨e7, e8, e9, e10, e11, e12, e13, e14, e15, e16, e17, e18⟩⟩ : Ev)))) := JO hN hs h13 (by omega)
 simp only [g1, g2, cc, ch, Da, PXb, PXc]
theorem fw (es : List Ev) {i : Nat} (h : i < es.length) : Bx (evR (es.map Bx) i) = (es.map Bx).getD i [] := by
 have e : ∀ j, AJ (es.map Bx) i j = AF (Bx es[i]) j := fun j => by
  unfold AJ Ax
  rw [List.getD_eq_getElem?_getD, List.getElem?_map, List.getElem?_eq_getElem h]
  rfl
 unfold evR atI atB
 simp only [e]
 rw [List.getD_eq_getElem?_getD, List.getElem?_map, List.getElem?_eq_getElem h]
 generalize es[i] = x
 simp only [Option.map_some, Option.getD_some, Bx, Del.ls, List.cons_append, List.nil_append, PXb, Nat.reduceAdd]
theorem be (x e : Ev) : Bv (Bx x) 0 (Bx e) = Bx e := by
 simp only [Bx, Del.ls, List.cons_append, List.nil_append, Bv, List.set_cons_zero, List.set_cons_succ, Nat.reduceAdd]
theorem jm (es : List Ev) {k : Int} (e : Ev) (h0 : 0 ≤ k) (h : k < (es.length : Int)) : edL (es.map Bx) k e = (es.set k.toNat e).map Bx := by
 unfold edL Ax
 rw [List.getD_eq_getElem?_getD, List.getElem?_map, List.getElem?_eq_getElem (show k.toNat < es.length by omega), List.map_set]
 simp only [Option.map_some, Option.getD_some, be]
theorem ir (es : List Ev) {k : Int} (e : Ev) (h0 : 0 ≤ k) (h : k < (es.length : Int)) : edL (edL (es.map Bx) k e) k (evR (es.map Bx) k.toNat) = es.map Bx := by
 have hk : k.toNat < es.length := by omega
 have h2 := fw es hk
 rw [jm es e h0 h]
 unfold edL Ax
 rw [List.getD_eq_getElem?_getD, List.getElem?_map, List.getElem?_set_self hk]
 simp only [Option.map_some, Option.getD_some]
 rw [be, h2, List.map_set, List.set_set, List.getD_eq_getElem?_getD, List.getElem?_map, List.getElem?_eq_getElem hk]
 simp only [Option.map_some, Option.getD_some]
 rw [← List.map_set, List.set_getElem_self]
theorem iw (es : List Ev) {k : Int} (h0 : 0 ≤ k) (h : k < (es.length : Int)) : edL (es.map Bx) k (evR (es.map Bx) k.toNat) = es.map Bx := by
 have hk : k.toNat < es.length := by omega
 have h2 := fw es hk
 unfold edL Ax
 rw [List.getD_eq_getElem?_getD, List.getElem?_map, List.getElem?_eq_getElem hk]
 simp only [Option.map_some, Option.getD_some]
 rw [be, h2, List.getD_eq_getElem?_getD, List.getElem?_map, List.getElem?_eq_getElem hk]
 simp only [Option.map_some, Option.getD_some]
 rw [← List.map_set, List.set_getElem_self]
theorem ja (es : List Ev) (n : Int) : cut (es.map Bx) n = ((es.take (cond (iLt n (es.length : Int)) n (es.length : Int)).toNat).drop (0 : Int).toNat).map Bx := by
 unfold cut
 rw [List.length_map, List.map_drop, List.map_take]
theorem f0 {N : Nat} {L : Rows}  : NZ N [.rows L] = some [.rows (cut L 60)] := by
 show Ni (std (JS N) N) (xOf _) = _
 simp only [Ni, std, xOf, PXb, PXc, PXn, PXm, Nat.reduceAdd, Int.reduceBEq, kb (show (0 : Int) ≤ 60 by omega)]
 rfl
theorem Sg {N : Nat} {L : Rows} (hN : 2097152 < N) (h : L.length ≤ 1048576) : D3 N [.rows L, .rows L] = some [.bool true] := by
 show EB (std (Jb N) N) (xOf _) = _
 simp only [EB, std, xOf, PXb, PXm]
 refine AZ (Gr (len := L.length) (fun i => [.int (i : Int)]) [.int 1] ?_ ?_ N (by omega)) ?_
 ·intro self
  simp only [PXb, PXc, PXn, AD, BK]
 ·intro i self hi
  simp only [PXb, PXc, PXn, PXm, Nat.reduceAdd, Int.reduceBEq, Ah (show i ≤ 1099511627776 by omega), A1 hi, Ad hi]
  rfl
 ·simp only [PXb, PXc, PXn, PXm, Nat.reduceAdd, Int.reduceBEq]
theorem jF (r : Rul) (L : Rows) : (Hf r L).1.length ≤ L.length := by
 unfold Hf
 cases (Bd r L).2.2 == 0
 ·exact Nat.zero_le _
 ·exact Nat.le_refl _
theorem kZ (r : Rul) (L : Rows) (k : Int) (e : Ev) : (edS r L k e).1.length ≤ L.length := by
 unfold edS
 cases !(Aw r L == 0) || iLt k 0 || iLe (L.length : Int) k
 ·exact Nat.le_trans (jF _ _) (by rw [R8]; exact Nat.le_refl _)
 ·exact Nat.zero_le _
set_option maxHeartbeats 4000000 in
theorem Vb {N : Nat} {r1 r2 r3 r4 r5 r6 r7 r9 r10 r11 r12 : Int} {r8 : Bool} {r0 : ByteArray} {r13 : Rows} {es : List Ev} {k : Int} {e0 e1 e2 e3 e5 e6 e7 e8 e9 e10 e11 e13 e14 e15 e16 e18 : Int} {e4 e12 e17 : Bool} (ha : HU N [] = some [.bool true]) (hN : 2097152 < N) (hs : r0.size ≤ 1048576) (h13 : r13.length ≤ 1048576) : Dx N [.str r0, .int r1, .int r2, .int r3, .int r4, .int r5, .int r6, .int r7, .bool r8, .int r9, .int r10, .int r11, .int r12, .rows r13, .rows (es.map Bx), .int k, .int e0, .int e1, .int e2, .int e3, .bool e4, .int e5, .int e6, .int e7, .int e8, .int e9, .int e10, .int e11, .bool e12, .int e13, .int e14, .int e15, .int e16, .bool e17, .int e18] = some [.bool true] := by
 show Dj (std (Ao N) N) (xOf _) = _
 have l1 : (cut (es.map Bx) 60).length ≤ 60 := jc _ 60
 have lm := ja es 60
 simp only [Dj, Nh, Jh, O9, Kd, NP, IW, KM, std, xOf, PXb, ha, f0, HX hN hs h13 (show (cut (es.map Bx) 60).length ≤ 1048576 by omega), PXc]
 generalize cut (es.map Bx) 60 = A at *
 generalize (es.take (cond (iLt 60 (es.length : Int)) 60 (es.length : Int)).toNat).drop (0 : Int).toNat = fs at lm
 have la : A.length = fs.length := by rw [lm, List.length_map]
 cases hg : !(Aw (⟨r0, r1, r2, r3, r4, r5, r6, r7, r8, r9, r10, r11, r12, r13⟩ : Rul) A == 0) || iLt k 0 || iLt (A.length : Int) k
 case true => rfl
 obtain ⟨ck, k0, k1⟩ := Tw hg
 have rA : Hf (⟨r0, r1, r2, r3, r4, r5, r6, r7, r8, r9, r10, r11, r12, r13⟩ : Rul) A = (A, -1, 0) := gM (ZY ck).2.2
 have t0 : ((0 : Int) == ((0 : Nat) : Int)) = true := rfl
 have eqA := Sg (L := A) hN (by omega)
 have s1 : ((RA (⟨r0, r1, r2, r3, r4, r5, r6, r7, r8, r9, r10, r11, r12, r13⟩ : Rul) A k (⟨e0, e1, e2, e3, e4, e5, e6, ⟨e7, e8, e9, e10, e11, e12, e13, e14, e15, e16, e17, e18⟩⟩ : Ev)).2.2 == 0) = true → C3 N [.str r0, .int r1, .int r2, .int r3, .int r4, .int r5, .int r6, .int r7, .bool r8, .int r9, .int r10, .int r11, .int r12, .rows r13, .rows (RA (⟨r0, r1, r2, r3, r4, r5, r6, r7, r8, r9, r10, r11, r12, r13⟩ : Rul) A k (⟨e0, e1, e2, e3, e4, e5, e6, ⟨e7, e8, e9, e10, e11, e12, e13, e14, e15, e16, e17, e18⟩⟩ : Ev)).1, .int k] = some (Da (A, -1, 0)) := fun h => by
  obtain ⟨q1, _, _, q4⟩ := i4 (by omega) h
  have hl := ZK (⟨e0, e1, e2, e3, e4, e5, e6, ⟨e7, e8, e9, e10, e11, e12, e13, e14, e15, e16, e17, e18⟩⟩ : Ev) k0 k1
  rw [q1, XN hN hs h13 (by show (MQ A k (⟨e0, e1, e2, e3, e4, e5, e6, ⟨e7, e8, e9, e10, e11, e12, e13, e14, e15, e16, e17, e18⟩⟩ : Ev)).length ≤ _; omega)]
  show some (Da (bT (⟨r0, r1, r2, r3, r4, r5, r6, r7, r8, r9, r10, r11, r12, r13⟩ : Rul) (MQ A k (⟨e0, e1, e2, e3, e4, e5, e6, ⟨e7, e8, e9, e10, e11, e12, e13, e14, e15, e16, e17, e18⟩⟩ : Ev)) k)) = _
  unfold bT
  rw [guard_ok (by rw [q4]; rfl) k0 (by omega), jG (⟨e0, e1, e2, e3, e4, e5, e6, ⟨e7, e8, e9, e10, e11, e12, e13, e14, e15, e16, e17, e18⟩⟩ : Ev) k0 k1 (by omega), rA]
  rfl
 simp only [W6 hN hs h13 (show A.length ≤ 1000000 by omega), Fr hN hs h13 (show A.length ≤ 1000000 by omega), Da, PXb, PXc, Nat.reduceAdd, t0, B9, Rr, aM] at s1 ⊢
 cases hk : k == (A.length : Int)
 case true =>
  cases hx : (RA (⟨r0, r1, r2, r3, r4, r5, r6, r7, r8, r9, r10, r11, r12, r13⟩ : Rul) A k (⟨e0, e1, e2, e3, e4, e5, e6, ⟨e7, e8, e9, e10, e11, e12, e13, e14, e15, e16, e17, e18⟩⟩ : Ev)).2.2 == 0
  case false => simp only [hx, hk, PXb, PXc, t0]
  case true => simp only [hx, hk, s1 hx, eqA, PXb, PXc, t0, beq_self_eq_true]
 have hk := beq_eq_false_iff_ne.1 hk
 have k2 : k < (A.length : Int) := by omega
 have q2 : edL A k (evR A k.toNat) = A := by rw [lm]; exact iw fs k0 (by omega)
 have q3 : edS (⟨r0, r1, r2, r3, r4, r5, r6, r7, r8, r9, r10, r11, r12, r13⟩ : Rul) A k (evR A k.toNat) = (A, -1, 0) := by
  unfold edS
  rw [guard_ok ck k0 k2, q2, rA]
  rfl
 have hi : iIn k (A.length : Int) = true := by simp only [iIn, Bool.and_eq_true, decide_eq_true_eq]; omega
 have bl := kZ (⟨r0, r1, r2, r3, r4, r5, r6, r7, r8, r9, r10, r11, r12, r13⟩ : Rul) A k (⟨e0, e1, e2, e3, e4, e5, e6, ⟨e7, e8, e9, e10, e11, e12, e13, e14, e15, e16, e17, e18⟩⟩ : Ev)
 have s2 : ((edS (⟨r0, r1, r2, r3, r4, r5, r6, r7, r8, r9, r10, r11, r12, r13⟩ : Rul) A k (⟨e0, e1, e2, e3, e4, e5, e6, ⟨e7, e8, e9, e10, e11, e12, e13, e14, e15, e16, e17, e18⟩⟩ : Ev)).2.2 == 0) = true → edS (⟨r0, r1, r2, r3, r4, r5, r6, r7, r8, r9, r10, r11, r12, r13⟩ : Rul) (edS (⟨r0, r1, r2, r3, r4, r5, r6, r7, r8, r9, r10, r11, r12, r13⟩ : Rul) A k (⟨e0, e1, e2, e3, e4, e5, e6, ⟨e7, e8, e9, e10, e11, e12, e13, e14, e15, e16, e17, e18⟩⟩ : Ev)).1 k (evR A k.toNat) = (A, -1, 0) := fun h => by
  obtain ⟨q1, _, _, _, q5⟩ := jb h
  rw [q1]
  unfold edS
  have : edL (edL A k (⟨e0, e1, e2, e3, e4, e5, e6, ⟨e7, e8, e9, e10, e11, e12, e13, e14, e15, e16, e17, e18⟩⟩ : Ev)) k (evR A k.toNat) = A := by rw [lm]; exact ir fs (⟨e0, e1, e2, e3, e4, e5, e6, ⟨e7, e8, e9, e10, e11, e12, e13, e14, e15, e16, e17, e18⟩⟩ : Ev) k0 (by omega)
  rw [guard_ok q5 k0 (by rw [R8]; exact k2), this, rA]
  rfl
 have d1 : (edS (⟨r0, r1, r2, r3, r4, r5, r6, r7, r8, r9, r10, r11, r12, r13⟩ : Rul) A k (evR A k.toNat)).1 = A := by rw [q3]
 have d2 : (edS (⟨r0, r1, r2, r3, r4, r5, r6, r7, r8, r9, r10, r11, r12, r13⟩ : Rul) A k (evR A k.toNat)).2.1 = -1 := by rw [q3]
 have d3 : (edS (⟨r0, r1, r2, r3, r4, r5, r6, r7, r8, r9, r10, r11, r12, r13⟩ : Rul) A k (evR A k.toNat)).2.2 = 0 := by rw [q3]
 have fin : True := trivial
 simp only [Fr (L := (edS (⟨r0, r1, r2, r3, r4, r5, r6, r7, r8, r9, r10, r11, r12, r13⟩ : Rul) A k (⟨e0, e1, e2, e3, e4, e5, e6, ⟨e7, e8, e9, e10, e11, e12, e13, e14, e15, e16, e17, e18⟩⟩ : Ev)).1) hN hs h13 (by omega), Da, d1, d2, d3, eqA, hi, PXb, PXc, Nat.reduceAdd, t0, B9, Rr, aM, beq_self_eq_true]
 cases hx : (RA (⟨r0, r1, r2, r3, r4, r5, r6, r7, r8, r9, r10, r11, r12, r13⟩ : Rul) A k (⟨e0, e1, e2, e3, e4, e5, e6, ⟨e7, e8, e9, e10, e11, e12, e13, e14, e15, e16, e17, e18⟩⟩ : Ev)).2.2 == 0 <;> cases hy : (edS (⟨r0, r1, r2, r3, r4, r5, r6, r7, r8, r9, r10, r11, r12, r13⟩ : Rul) A k (⟨e0, e1, e2, e3, e4, e5, e6, ⟨e7, e8, e9, e10, e11, e12, e13, e14, e15, e16, e17, e18⟩⟩ : Ev)).2.2 == 0
 ·simp only [PXb, PXc, hx, hy, beq_eq_false_iff_ne.2 hk, t0]
 ·have z1 : (edS (⟨r0, r1, r2, r3, r4, r5, r6, r7, r8, r9, r10, r11, r12, r13⟩ : Rul) (edS (⟨r0, r1, r2, r3, r4, r5, r6, r7, r8, r9, r10, r11, r12, r13⟩ : Rul) A k (⟨e0, e1, e2, e3, e4, e5, e6, ⟨e7, e8, e9, e10, e11, e12, e13, e14, e15, e16, e17, e18⟩⟩ : Ev)).1 k (evR A k.toNat)).1 = A := by rw [s2 hy]
  have z2 : (edS (⟨r0, r1, r2, r3, r4, r5, r6, r7, r8, r9, r10, r11, r12, r13⟩ : Rul) (edS (⟨r0, r1, r2, r3, r4, r5, r6, r7, r8, r9, r10, r11, r12, r13⟩ : Rul) A k (⟨e0, e1, e2, e3, e4, e5, e6, ⟨e7, e8, e9, e10, e11, e12, e13, e14, e15, e16, e17, e18⟩⟩ : Ev)).1 k (evR A k.toNat)).2.2 = 0 := by rw [s2 hy]
  simp only [PXb, PXc, hx, hy, beq_eq_false_iff_ne.2 hk, t0, z1, z2, eqA, beq_self_eq_true]
 ·simp only [PXb, PXc, hx, hy, beq_eq_false_iff_ne.2 hk, t0, s1 hx, eqA, beq_self_eq_true]
 ·have z1 : (edS (⟨r0, r1, r2, r3, r4, r5, r6, r7, r8, r9, r10, r11, r12, r13⟩ : Rul) (edS (⟨r0, r1, r2, r3, r4, r5, r6, r7, r8, r9, r10, r11, r12, r13⟩ : Rul) A k (⟨e0, e1, e2, e3, e4, e5, e6, ⟨e7, e8, e9, e10, e11, e12, e13, e14, e15, e16, e17, e18⟩⟩ : Ev)).1 k (evR A k.toNat)).1 = A := by rw [s2 hy]
  have z2 : (edS (⟨r0, r1, r2, r3, r4, r5, r6, r7, r8, r9, r10, r11, r12, r13⟩ : Rul) (edS (⟨r0, r1, r2, r3, r4, r5, r6, r7, r8, r9, r10, r11, r12, r13⟩ : Rul) A k (⟨e0, e1, e2, e3, e4, e5, e6, ⟨e7, e8, e9, e10, e11, e12, e13, e14, e15, e16, e17, e18⟩⟩ : Ev)).1 k (evR A k.toNat)).2.2 = 0 := by rw [s2 hy]
  simp only [PXb, PXc, hx, hy, beq_eq_false_iff_ne.2 hk, t0, s1 hx, z1, z2, eqA, beq_self_eq_true]
end Go.Px
end
section
namespace Go.Proofs
open Go.Shelf
def Tryz.lays4_ren : Go.Shelf.Ren := ⟨fun | 4 => 37 | n => n, fun | 22 => 25 | 25 => 38 | n => n, fun n => n⟩
theorem iG {P : Program} {f : FuncId} {F B : Func} (h : P.funcs[f]? = some F) (hn : (F.name == "runtime.NumGoroutine") = false) (hb : F = { B with name := F.name }) : Bears P f B := ⟨F.name, hn, h.trans (congrArg some hb)⟩
theorem Tryz.lays4 : Lays8.n4 Tryz.prog Tryz.lays4_ren := {
  mixed := by kernel_rfl
  f4 := iG Tryz.func37 (by kernel_rfl) (by kernel_rfl)
  t0 := Tryz.underlying0
  a0 := Tryz.isAgg0
  z0 := Tryz.sizeOf0
  v0 := Tryz.zeroValue0
  t3 := Tryz.underlying3
  a3 := Tryz.isAgg3
  z3 := Tryz.sizeOf3
  v3 := Tryz.zeroValue3
  t4 := Tryz.underlying4
  a4 := Tryz.isAgg4
  z4 := Tryz.sizeOf4
  v4 := Tryz.zeroValue4
  t9 := Tryz.underlying9
  a9 := Tryz.isAgg9
  z9 := Tryz.sizeOf9
  v9 := Tryz.zeroValue9
  t20 := Tryz.underlying20
  a20 := Tryz.isAgg20
  z20 := Tryz.sizeOf20
  v20 := Tryz.zeroValue20
  t22 := Tryz.underlying25
  a22 := Tryz.isAgg25
  z22 := Tryz.sizeOf25
  v22 := Tryz.zeroValue25 }
end Go.Proofs
end
