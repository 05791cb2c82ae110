/- Part 12. -/
import Derived.Test.YtibhmjjjbblhmaaGreatPart11
set_option linter.unusedVariables false
set_option linter.unusedSimpArgs false
namespace Go.Px
set_option maxRecDepth 100000
def Ya (r : Rul) (L : Rows) : Rows × Int × Int := cond (!((B0 r L).2.2 == 0)) ([], (B0 r L).2.1, (B0 r L).2.2) (L, -1, 0)
def Od (x : Rows × Int × Int) : List PV := [.rows x.1, .int x.2.1, .int x.2.2]
theorem VH {N : Nat} {r1 r2 r3 r4 r5 r6 r7 r9 r10 r11 r12 : Int} {r8 : Bool} {r0 : ByteArray} {r13 : Rows} {L : Rows} (hN : 2097152 < N) (hs : r0.size ≤ 1048576) (h13 : r13.length ≤ 1048576) (hL : L.length ≤ 1048576) : Cf N [.str r0, .int r1, .int r2, .int r3, .int r4, .int r5, .int r6, .int r7, .bool r8, .int r9, .int r10, .int r11, .int r12, .rows r13, .rows L] = some (Od (Ya (⟨r0, r1, r2, r3, r4, r5, r6, r7, r8, r9, r10, r11, r12, r13⟩ : Rul) L)) := by
 show Ds (std (B8 N) N) (xOf _) = _
 generalize hres : (some (Od (Ya (⟨r0, r1, r2, r3, r4, r5, r6, r7, r8, r9, r10, r11, r12, r13⟩ : Rul) L)) : Option (List PV)) = RR
 simp only [Ds, L9, std, xOf, PXb, Pd hN hs h13 hL, Zl, PXc]
 subst hres; simp only [Ya]
 cases (B0 (⟨r0, r1, r2, r3, r4, r5, r6, r7, r8, r9, r10, r11, r12, r13⟩ : Rul) L).2.2 == 0 <;> rfl
def Zr (e : Ev) : List PV := [.int e.kind, .int e.side, .int e.player, .int e.other, .bool e.yes, .int e.runs, .int e.overs] ++ e.ball.ls
def edL (L : Rows) (k : Int) (e : Ev) : Rows := L.set k.toNat (B2 (A6 L k.toNat) 0 (Zr e))
theorem Ua (L : Rows) (k : Int) (e : Ev) : (edL L k e).length = L.length := List.length_set
def edS (r : Rul) (L : Rows) (k : Int) (e : Ev) : Rows × Int × Int := cond (!(DN r L == 0) || iLt k 0 || iLe (L.length : Int) k) ([], -1, 1) (Ya r (edL L k e))
theorem Iv {N : Nat} {r1 r2 r3 r4 r5 r6 r7 r9 r10 r11 r12 : Int} {r8 : Bool} {r0 : ByteArray} {r13 : Rows} {L : Rows} {k : Int} {e0 e1 e2 e3 e5 e6 e7 e8 e9 e10 e11 e13 e14 e15 e16 e18 : Int} {e4 e12 e17 : Bool} (hN : 2097152 < N) (hs : r0.size ≤ 1048576) (h13 : r13.length ≤ 1048576) (hL : L.length ≤ 1000000) : BM N [.str r0, .int r1, .int r2, .int r3, .int r4, .int r5, .int r6, .int r7, .bool r8, .int r9, .int r10, .int r11, .int r12, .rows r13, .rows L, .int k, .int e0, .int e1, .int e2, .int e3, .bool e4, .int e5, .int e6, .int e7, .int e8, .int e9, .int e10, .int e11, .bool e12, .int e13, .int e14, .int e15, .int e16, .bool e17, .int e18] = some (Od (edS (⟨r0, r1, r2, r3, r4, r5, r6, r7, r8, r9, r10, r11, r12, r13⟩ : Rul) L k (⟨e0, e1, e2, e3, e4, e5, e6, ⟨e7, e8, e9, e10, e11, e12, e13, e14, e15, e16, e17, e18⟩⟩ : Ev))) := by
 show Dr (std (BJ N) N) (xOf _) = _
 generalize hres : (some (Od (edS (⟨r0, r1, r2, r3, r4, r5, r6, r7, r8, r9, r10, r11, r12, r13⟩ : Rul) L k (⟨e0, e1, e2, e3, e4, e5, e6, ⟨e7, e8, e9, e10, e11, e12, e13, e14, e15, e16, e17, e18⟩⟩ : Ev))) : Option (List PV)) = RR
 simp only [Dr, Mp, IA, JB, std, xOf, PXb, Qm hN hs h13 (show L.length ≤ 1048576 by omega), Dy, BB (show L.length ≤ 1048576 by omega) (show 136 ≤ 4096 by omega), PXc]
 subst hres
 unfold edS
 cases hx : !DN (⟨r0, r1, r2, r3, r4, r5, r6, r7, r8, r9, r10, r11, r12, r13⟩ : Rul) L == 0 || iLt k 0 || iLe (L.length : Int) k
 case true => rfl
 have hi : iIn k (L.length : Int) = true := by
  simp only [Bool.or_eq_false_iff, iLt, iLe, decide_eq_false_iff_not] at hx
  simp only [iIn, decide_eq_true_eq, Bool.and_eq_true]
  omega
 simp only [hi, PXb]
 have : Cf N [.str r0, .int r1, .int r2, .int r3, .int r4, .int r5, .int r6, .int r7, .bool r8, .int r9, .int r10, .int r11, .int r12, .rows r13, .rows (edL L k (⟨e0, e1, e2, e3, e4, e5, e6, ⟨e7, e8, e9, e10, e11, e12, e13, e14, e15, e16, e17, e18⟩⟩ : Ev))] = some (Od (Ya (⟨r0, r1, r2, r3, r4, r5, r6, r7, r8, r9, r10, r11, r12, r13⟩ : Rul) (edL L k (⟨e0, e1, e2, e3, e4, e5, e6, ⟨e7, e8, e9, e10, e11, e12, e13, e14, e15, e16, e17, e18⟩⟩ : Ev)))) := VH hN hs h13 (by rw [Ua]; omega)
 simp only [edL, Zr, Del.ls, List.cons_append, List.nil_append] at this
 simp only [this]
 rfl
theorem fa (L : Rows) {k : Int} (e : Ev) {i : Nat} (h : i ≠ k.toNat) : evR (edL L k e) i = evR L i := by
 have hp : ∀ j, AG (edL L k e) i j = AG L i j := fun j => by
  unfold AG A6 edL
  rw [List.getD_eq_getElem?_getD, List.getElem?_set_ne (Ne.symm h), ← List.getD_eq_getElem?_getD]
 simp only [evR, atI, atB, hp]
theorem gk (L : Rows) {k : Int} (e : Ev) (m : Mat) : ∀ j, j ≤ k.toNat → stM (edL L k e) j 0 m = stM L j 0 m
 | 0, _ => rfl
 | j + 1, h => by
  rw [SH, SH, gk L e m j (by omega), Nat.zero_add, fa L e (by omega)]
theorem Ug (S : Nat → Bool) : ∀ k i, i ≤ Hq S k i ∧ Hq S k i ≤ i + k ∧ (Hq S k i < i + k → S (Hq S k i + 1) = false) ∧ ∀ j, i < j → j ≤ Hq S k i → S j = true
 | 0, i => ⟨Nat.le_refl _, Nat.le_refl _, fun h => absurd h (Nat.lt_irrefl _), fun j h1 h2 => absurd (Nat.lt_of_lt_of_le h1 h2) (Nat.lt_irrefl _)⟩
 | k + 1, i => by
  cases h : S (i + 1) with
  | false =>
   simp only [Hq, h, cond_false]
   exact ⟨Nat.le_refl _, by omega, fun _ => trivial, fun j h1 h2 => by omega⟩
  | true =>
   simp only [Hq, h, cond_true]
   obtain ⟨a, b, c, d⟩ := Ug S k (i + 1)
   refine ⟨by omega, by omega, fun h => c (by omega), fun j h1 h2 => ?_⟩
   rcases Nat.lt_or_ge (i + 1) j with h3 | h3
   ·exact d j h3 h2
   ·rw [show j = i + 1 by omega]; exact h
theorem cl (S : Nat → Bool) {k : Nat} : ∀ n i, (∀ j, i < j → j ≤ k → S j = true) → k ≤ i + n → i ≤ k → k ≤ Hq S n i
 | 0, i, _, h1, h2 => by simp only [Hq]; omega
 | n + 1, i, h, h1, h2 => by
  simp only [Hq]
  rcases Nat.lt_or_ge i k with h3 | h3
  ·rw [h (i + 1) (by omega) (by omega)]
   exact cl S n (i + 1) (fun j a b => h j (by omega) b) (by omega) (by omega)
  ·have := (Ug S (n + 1) i).1
   simp only [Hq] at this
   omega
theorem ZH (S : Nat → Bool) : ∀ n, Jk S n ≤ n ∧ (0 < Jk S n → S (Jk S n - 1) = false) ∧ ∀ j, Jk S n ≤ j → j < n → S j = true
 | 0 => ⟨Nat.le_refl _, fun h => absurd h (Nat.lt_irrefl _), fun j _ h => absurd h (Nat.not_lt_zero _)⟩
 | n + 1 => by
  cases h : S n with
  | false =>
   simp only [Jk, h, cond_false]
   exact ⟨Nat.le_refl _, fun _ => h, fun j a b => by omega⟩
  | true =>
   simp only [Jk, h, cond_true]
   obtain ⟨a, b, c⟩ := ZH S n
   refine ⟨by omega, b, fun j h1 h2 => ?_⟩
   rcases Nat.lt_or_ge j n with h3 | h3
   ·exact c j h1 h3
   ·rw [show j = n by omega]; exact h
theorem ii {r : Rul} {L : Rows} {k : Int} {e : Ev} (h : ((edS r L k e).2.2 == 0) = true) :
    (edS r L k e).1 = edL L k e ∧ 0 ≤ k ∧ k < (L.length : Int) ∧ (DN r L == 0) = true ∧ (DN r (edL L k e) == 0) = true := by
  unfold edS at h ⊢
  cases hx : !(DN r L == 0) || iLt k 0 || iLe (L.length : Int) k with
  | true => rw [hx] at h; exact absurd (show ((1 : Int) == 0) = true from h) (by decide)
  | false =>
    rw [hx] at h
    simp only [cond_false] at h ⊢
    simp only [Bool.or_eq_false_iff, iLt, iLe, decide_eq_false_iff_not, Bool.not_eq_false'] at hx
    obtain ⟨⟨h1, h2⟩, h3⟩ := hx
    unfold Ya at h ⊢
    cases h4 : (B0 r (edL L k e)).2.2 == 0 with
    | false => rw [h4] at h; exact absurd (show ((B0 r (edL L k e)).2.2 == 0) = true from h) (by rw [h4]; decide)
    | true =>
      refine ⟨rfl, by omega, by omega, h1, ?_⟩
      unfold DN at h1 ⊢
      rw [Ua, h4]
      cases hc : Av r == 0 with
      | false => rw [hc] at h1; exact absurd (show (Av r == 0) = true from h1) (by rw [hc]; decide)
      | true =>
        rw [hc] at h1
        cases h5 : iLt 4000 (L.length : Int) with
        | true => rw [h5] at h1; cases h1
        | false => rfl
theorem YU {N : Nat} {m1 m2 m3 m4 m5 m6 m7 m9 m10 m11 m12 m14 m15 m18 m19 m20 m21 m22 : Int} {m8 m16 : Bool} {m0 : ByteArray} {m13 : Rows} {m17 : List Inn} {k1 k2 k3 k4 k5 k6 k7 k9 k10 k11 k12 k14 k15 k18 k19 k20 k21 k22 : Int} {k8 k16 : Bool} {k0 : ByteArray} {k13 : Rows} {k17 : List Inn} (hN : 2097152 < N) (hr : (⟨k0, k1, k2, k3, k4, k5, k6, k7, k8, k9, k10, k11, k12, k13⟩ : Rul) = (⟨m0, m1, m2, m3, m4, m5, m6, m7, m8, m9, m10, m11, m12, m13⟩ : Rul)) (hf : GV m17) (hl : m17.length ≤ 1000000) (h13 : m13.length ≤ 1048576) : Fx N [.str m0, .int m1, .int m2, .int m3, .int m4, .int m5, .int m6, .int m7, .bool m8, .int m9, .int m10, .int m11, .int m12, .rows m13, .int m14, .int m15, .bool m16, .rows (AO m17), .int m18, .int m19, .int m20, .int m21, .int m22, .str k0, .int k1, .int k2, .int k3, .int k4, .int k5, .int k6, .int k7, .bool k8, .int k9, .int k10, .int k11, .int k12, .rows k13, .int k14, .int k15, .bool k16, .rows (AO k17), .int k18, .int k19, .int k20, .int k21, .int k22] = some [.bool (OT (⟨⟨m0, m1, m2, m3, m4, m5, m6, m7, m8, m9, m10, m11, m12, m13⟩, m14, m15, m16, m17, m18, m19, m20, m21, m22⟩ : Mat) (⟨⟨k0, k1, k2, k3, k4, k5, k6, k7, k8, k9, k10, k11, k12, k13⟩, k14, k15, k16, k17, k18, k19, k20, k21, k22⟩ : Mat))] := by
 show IZ (std (Jx N) N) (xOf _) = _
 simp only [IZ, ON, std, xOf, PXb, PXc, PXn, PXm, Nat.reduceAdd, Int.reduceBEq, T1 hN hr hf hl h13]
set_option maxHeartbeats 8000000 in
theorem TP {N : Nat} {r1 r2 r3 r4 r5 r6 r7 r9 r10 r11 r12 : Int} {r8 : Bool} {r0 : ByteArray} {r13 : Rows} {L : Rows} {k : Int} {e0 e1 e2 e3 e5 e6 e7 e8 e9 e10 e11 e13 e14 e15 e16 e18 : Int} {e4 e12 e17 : Bool} (ha : HJ N [] = some [.bool true]) (hN : 2097152 < N) (hs : r0.size ≤ 1048576) (h13 : r13.length ≤ 1048576) : Cx N [.str r0, .int r1, .int r2, .int r3, .int r4, .int r5, .int r6, .int r7, .bool r8, .int r9, .int r10, .int r11, .int r12, .rows r13, .rows L, .int k, .int e0, .int e1, .int e2, .int e3, .bool e4, .int e5, .int e6, .int e7, .int e8, .int e9, .int e10, .int e11, .bool e12, .int e13, .int e14, .int e15, .int e16, .bool e17, .int e18] = some [.bool true] := by
 show Ct (std (Ap N) N) (xOf _) = _
 have l1 : (cut L 40).length ≤ 1000000 := Nat.le_trans (ep L 40) (show 40 ≤ 1000000 by omega)
 have l2 : (cut L 40).length ≤ 1048576 := Nat.le_trans (ep L 40) (show 40 ≤ 1048576 by omega)
 have c1 : List.drop (Int.toNat 0) (List.take (cond (iLt 40 (L.length : Int)) 40 (L.length : Int)).toNat L) = cut L 40 := rfl
 simp only [Ct, Lc, I2, Ih, Ni, J0, std, xOf, PXb, ha, jS (show (0 : Int) ≤ 40 by omega), c1, Iv hN hs h13 l1, Od]
 generalize cut L 40 = A at *
 cases hx : (edS (⟨r0, r1, r2, r3, r4, r5, r6, r7, r8, r9, r10, r11, r12, r13⟩ : Rul) A k (⟨e0, e1, e2, e3, e4, e5, e6, ⟨e7, e8, e9, e10, e11, e12, e13, e14, e15, e16, e17, e18⟩⟩ : Ev)).2.2 == 0
 case false => simp only [PXb, hx]
 obtain ⟨d1, k0, k1, ca, cb⟩ := ii hx
 have lB : (edL A k (⟨e0, e1, e2, e3, e4, e5, e6, ⟨e7, e8, e9, e10, e11, e12, e13, e14, e15, e16, e17, e18⟩⟩ : Ev)).length = A.length := Ua _ _ _
 have st := fun j => gk A (k := k) (⟨e0, e1, e2, e3, e4, e5, e6, ⟨e7, e8, e9, e10, e11, e12, e13, e14, e15, e16, e17, e18⟩⟩ : Ev) (Bj (⟨r0, r1, r2, r3, r4, r5, r6, r7, r8, r9, r10, r11, r12, r13⟩ : Rul)).1 j
 simp only [PXb, hx, d1]
 generalize edL A k (⟨e0, e1, e2, e3, e4, e5, e6, ⟨e7, e8, e9, e10, e11, e12, e13, e14, e15, e16, e17, e18⟩⟩ : Ev) = B at *
 obtain ⟨hc, aa⟩ := Qg ca
 obtain ⟨_, ab⟩ := Qg cb
 have okm := YN (⟨r0, r1, r2, r3, r4, r5, r6, r7, r8, r9, r10, r11, r12, r13⟩ : Rul) ((Pm (⟨r0, r1, r2, r3, r4, r5, r6, r7, r8, r9, r10, r11, r12, r13⟩ : Rul)).trans hc)
 have on := fun L i => dj (L := L) i 0 _ okm
 have nm : ∀ x : Mat, x.rules = (⟨r0, r1, r2, r3, r4, r5, r6, r7, r8, r9, r10, r11, r12, r13⟩ : Rul) → x.rules.power.length ≤ 1048576 := fun x hx => by rw [hx]; exact h13
 have s0 : ∀ j, j ≤ k.toNat → EI (⟨r0, r1, r2, r3, r4, r5, r6, r7, r8, r9, r10, r11, r12, r13⟩ : Rul) A B j = true := fun j hj => by
  unfold EI
  rw [st j hj]
  exact di _
 have xe : WN (⟨r0, r1, r2, r3, r4, r5, r6, r7, r8, r9, r10, r11, r12, r13⟩ : Rul) A B = ((Hq (EI (⟨r0, r1, r2, r3, r4, r5, r6, r7, r8, r9, r10, r11, r12, r13⟩ : Rul) A B) A.length 0 : Int), (Jk (EI (⟨r0, r1, r2, r3, r4, r5, r6, r7, r8, r9, r10, r11, r12, r13⟩ : Rul) A B) (A.length + 1) : Int), 0) := by
  have hw := Z1 (EI (⟨r0, r1, r2, r3, r4, r5, r6, r7, r8, r9, r10, r11, r12, r13⟩ : Rul) A B) A.length 0 rfl rfl
  rw [Nat.zero_add] at hw
  rw [← ac _ (s0 0 (Nat.zero_le _)), ← hw]
  unfold WN
  rw [ca, cb, lB, beq_self_eq_true]
  rfl
 have sm : ∀ j, EI (⟨r0, r1, r2, r3, r4, r5, r6, r7, r8, r9, r10, r11, r12, r13⟩ : Rul) A B j = false → Fx N ((stM A j 0 (Bj (⟨r0, r1, r2, r3, r4, r5, r6, r7, r8, r9, r10, r11, r12, r13⟩ : Rul)).1).ls ++ (stM B j 0 (Bj (⟨r0, r1, r2, r3, r4, r5, r6, r7, r8, r9, r10, r11, r12, r13⟩ : Rul)).1).ls) = some [.bool false] := fun j hj => by
  have o1 := on A j
  have o2 := on B j
  rw [← hj]
  exact YU hN (o2.rules.trans o1.rules.symm) o1.fit (Nat.le_trans o1.len (show 5 ≤ 1000000 by omega)) (nm _ o1.rules)
 simp only [Mat.ls, List.cons_append, List.nil_append] at sm
 obtain ⟨f1, f2, f3, f4⟩ := Ug (EI (⟨r0, r1, r2, r3, r4, r5, r6, r7, r8, r9, r10, r11, r12, r13⟩ : Rul) A B) A.length 0
 have f5 := cl (EI (⟨r0, r1, r2, r3, r4, r5, r6, r7, r8, r9, r10, r11, r12, r13⟩ : Rul) A B) (k := k.toNat) A.length 0 (fun j _ hj => s0 j hj) (by omega) (Nat.zero_le _)
 obtain ⟨g1, g2, g3⟩ := ZH (EI (⟨r0, r1, r2, r3, r4, r5, r6, r7, r8, r9, r10, r11, r12, r13⟩ : Rul) A B) (A.length + 1)
 simp only [PK hN hs h13 l1 (show B.length ≤ 1000000 by omega), Ux, xe, PXb, PXc]
 generalize Hq (EI (⟨r0, r1, r2, r3, r4, r5, r6, r7, r8, r9, r10, r11, r12, r13⟩ : Rul) A B) A.length 0 = f at *
 generalize Jk (EI (⟨r0, r1, r2, r3, r4, r5, r6, r7, r8, r9, r10, r11, r12, r13⟩ : Rul) A B) (A.length + 1) = g at *
 have q1 : iLt (f : Int) k = false := by simp only [iLt, decide_eq_false_iff_not]; omega
 simp only [PXb, PXc, PXn, PXm, Nat.reduceAdd, Int.reduceBEq, q1]
 cases hn : (f : Int) == (A.length : Int)
 case true =>
  have hn := beq_iff_eq.1 hn
  have : g = 0 := by
   rcases Nat.eq_zero_or_pos g with h | h
   ·exact h
   ·have h6 := g2 h
    rcases Nat.eq_zero_or_pos (g - 1) with h7 | h7
    ·rw [h7, s0 0 (Nat.zero_le _)] at h6; cases h6
    ·rw [f4 (g - 1) h7 (by omega)] at h6; cases h6
  subst this
  rfl
 have hn := beq_eq_false_iff_ne.1 hn
 have f6 : f < A.length := by omega
 have f7 := f3 (by omega)
 have g4 : f + 1 < g := by
  rcases Nat.lt_or_ge (f + 1) g with h | h
  ·exact h
  ·rw [g3 (f + 1) h (by omega)] at f7; cases f7
 have g5 := g2 (by omega)
 have w1 : IntKind.i64.wrap ((f : Int) + 1) = ((f + 1 : Nat) : Int) := Ah (by omega)
 have w2 : IntKind.i64.wrap ((g : Int) - 1) = ((g - 1 : Nat) : Int) := by rw [show (g : Int) - 1 = ((g - 1 : Nat) : Int) by omega]; exact G2 (by omega) (by omega)
 have q2 : iLt ((f + 1 : Nat) : Int) (g : Int) = true := by simp only [iLt, decide_eq_true_eq]; omega
 have p1 := SQ hc (n := f + 1) (by omega) (RK _ _ _ _ (by omega) aa)
 have p2 := SQ hc (n := f + 1) (L := B) (by omega) (RK _ _ _ _ (by omega) ab)
 have p3 := SQ hc (n := g - 1) (by omega) (RK _ _ _ _ (by omega) aa)
 have p4 := SQ hc (n := g - 1) (L := B) (by omega) (RK _ _ _ _ (by omega) ab)
 simp only [w1, w2, q2, aw hN hs h13 l2, aw (L := B) hN hs h13 (by omega), p1, p2, p3, p4, Je, PXb, PXc, sm _ f7, sm _ g5]
 rfl
end Go.Px
