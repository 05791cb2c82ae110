/- Part 14. -/
import Derived.Test.YtibhmjjjbblhmaaGreatPart13
set_option linter.unusedVariables false
set_option linter.unusedSimpArgs false
section
namespace Go.Px
set_option maxRecDepth 100000
def eM (xs ys : List Inn) : Bool := ((xs.length : Int) == (ys.length : Int)) && !Ah (fun i => !K2 (inn xs i) (inn ys i)) xs.length 0
def Nr (x y : Mat) : Bool := x.stage == y.stage && (x.first == y.first && (x.follow == y.follow && (x.pen1 == y.pen1 && (x.pen2 == y.pen2 && (x.win == y.win && (x.wside == y.wside && (x.margin == y.margin && eM x.inns y.inns)))))))
theorem ST {N : Nat} {xs ys : List Inn} (hN : 2097152 < N) (hf : Cw xs) (hl : xs.length ≤ 1000000) : Bp N [.rows (AQ xs), .rows (AQ ys)] = some [.bool (eM xs ys)] := by
 show Bo (std (BE N) N) (xOf _) = _
 simp only [Bo, DP, std, xOf, PXb, PXi]
 unfold eM
 cases hm : (xs.length : Int) == (ys.length : Int) with
 | false => rfl
 | true =>
  simp only [PXb, PXc, PXn, AA]
  refine AK (A7 (len := xs.length) (fun i => !K2 (inn xs i) (inn ys i)) [.bool false] ?_ ?_ N (by omega)) ?_
  ·intro self
   simp only [PXb, PXc, PXn, AA, Aj]
  ·intro i self hi
   simp only [PXb, PXc, PXn, AA, AN (show i ≤ 1099511627776 by omega), Ae hi, AP hi, NG hm hi, PXi, Nat.reduceAdd, DP, lf (hf i hi) hN]
  ·cases Ah (fun i => !K2 (inn xs i) (inn ys i)) xs.length 0 <;> rfl
theorem pz {N : Nat} {m1 m2 m3 m4 m5 m6 m7 m9 m10 m11 m12 m14 m15 m18 m19 m20 m21 m22 : Int} {m8 m16 : Bool} {m0 : ByteArray} {m13 : Rows} {m17 : List Inn} {k1 k2 k3 k4 k5 k6 k7 k9 k10 k11 k12 k14 k15 k18 k19 k20 k21 k22 : Int} {k8 k16 : Bool} {k0 : ByteArray} {k13 : Rows} {k17 : List Inn} (hN : 2097152 < N) (hr : (⟨k0, k1, k2, k3, k4, k5, k6, k7, k8, k9, k10, k11, k12, k13⟩ : Rul) = (⟨m0, m1, m2, m3, m4, m5, m6, m7, m8, m9, m10, m11, m12, m13⟩ : Rul)) (hf : Cw m17) (hl : m17.length ≤ 1000000) (h13 : m13.length ≤ 1048576) : G8 N [.str m0, .int m1, .int m2, .int m3, .int m4, .int m5, .int m6, .int m7, .bool m8, .int m9, .int m10, .int m11, .int m12, .rows m13, .int m14, .int m15, .bool m16, .rows (AQ m17), .int m18, .int m19, .int m20, .int m21, .int m22, .str k0, .int k1, .int k2, .int k3, .int k4, .int k5, .int k6, .int k7, .bool k8, .int k9, .int k10, .int k11, .int k12, .rows k13, .int k14, .int k15, .bool k16, .rows (AQ k17), .int k18, .int k19, .int k20, .int k21, .int k22] = some [.bool (Nr (⟨⟨m0, m1, m2, m3, m4, m5, m6, m7, m8, m9, m10, m11, m12, m13⟩, m14, m15, m16, m17, m18, m19, m20, m21, m22⟩ : Mat) (⟨⟨k0, k1, k2, k3, k4, k5, k6, k7, k8, k9, k10, k11, k12, k13⟩, k14, k15, k16, k17, k18, k19, k20, k21, k22⟩ : Mat))] := by
 cases hr
 show Jr (std (Df N) N) (xOf _) = _
 simp only [Jr, VL, Jh, std, xOf, PXb, eg hN h13, ST hN hf hl]
 unfold Nr
 dsimp only
 cases m14 == k14 <;> try rfl
 cases m15 == k15 <;> try rfl
 cases m16 == k16 <;> try rfl
 cases m18 == k18 <;> try rfl
 cases m19 == k19 <;> try rfl
 cases m20 == k20 <;> try rfl
 cases m21 == k21 <;> try rfl
 cases m22 == k22 <;> try rfl
theorem tC {N : Nat} {m1 m2 m3 m4 m5 m6 m7 m9 m10 m11 m12 m14 m15 m18 m19 m20 m21 m22 : Int} {m8 m16 : Bool} {m0 : ByteArray} {m13 : Rows} {m17 : List Inn} {k1 k2 k3 k4 k5 k6 k7 k9 k10 k11 k12 k14 k15 k18 k19 k20 k21 k22 : Int} {k8 k16 : Bool} {k0 : ByteArray} {k13 : Rows} {k17 : List Inn} (hN : 2097152 < N) (hr : (⟨k0, k1, k2, k3, k4, k5, k6, k7, k8, k9, k10, k11, k12, k13⟩ : Rul) = (⟨m0, m1, m2, m3, m4, m5, m6, m7, m8, m9, m10, m11, m12, m13⟩ : Rul)) (hf : Cw m17) (hl : m17.length ≤ 1000000) (h13 : m13.length ≤ 1048576) : PD N [.str m0, .int m1, .int m2, .int m3, .int m4, .int m5, .int m6, .int m7, .bool m8, .int m9, .int m10, .int m11, .int m12, .rows m13, .int m14, .int m15, .bool m16, .rows (AQ m17), .int m18, .int m19, .int m20, .int m21, .int m22, .str k0, .int k1, .int k2, .int k3, .int k4, .int k5, .int k6, .int k7, .bool k8, .int k9, .int k10, .int k11, .int k12, .rows k13, .int k14, .int k15, .bool k16, .rows (AQ k17), .int k18, .int k19, .int k20, .int k21, .int k22] = some [.bool (Nr (⟨⟨m0, m1, m2, m3, m4, m5, m6, m7, m8, m9, m10, m11, m12, m13⟩, m14, m15, m16, m17, m18, m19, m20, m21, m22⟩ : Mat) (⟨⟨k0, k1, k2, k3, k4, k5, k6, k7, k8, k9, k10, k11, k12, k13⟩, k14, k15, k16, k17, k18, k19, k20, k21, k22⟩ : Mat))] := by
 cases hr
 show TX (std (OY N) N) (xOf _) = _
 simp only [TX, bL, Pq, std, xOf, PXb, j8 hN h13, PXi]
 unfold Nr eM
 dsimp only
 cases hm : (m17.length : Int) == (k17.length : Int)
 case false => simp only [PXb, Bool.false_and, Bool.and_false]
 cases m18 == k18
 case false => simp only [PXb, Bool.false_and, Bool.and_false]
 cases m19 == k19
 case false => simp only [PXb, Bool.false_and, Bool.and_false]
 simp only [PXb, PXc, PXn, AA]
 refine AK (A7 (len := m17.length) (fun i => !K2 (inn m17 i) (inn k17 i)) [.bool false] ?_ ?_ N (by omega)) ?_
 ·intro self
  simp only [PXb, PXc, PXn, AA, Aj]
 ·intro i self hi
  simp only [PXb, PXc, PXn, AA, AN (show i ≤ 1099511627776 by omega), Ae hi, AP hi, NG hm hi, PXi, Nat.reduceAdd, Pq, sj (hf i hi) hN]
 ·cases Ah (fun i => !K2 (inn m17 i) (inn k17 i)) m17.length 0
  case true =>
   simp only [Bool.not_true, Bool.and_false]
   rfl
  case false =>
   cases m14 == k14 <;> try rfl
   cases m15 == k15 <;> try rfl
   cases m16 == k16 <;> try rfl
   cases m20 == k20 <;> try rfl
   cases m21 == k21 <;> try rfl
   cases m22 == k22 <;> rfl
end Go.Px
end
section
namespace Go.Px
set_option maxRecDepth 100000
def Ck (xs : List Mat) : Rows := xs.map Mat.ls
def mtn (xs : List Mat) (i : Nat) : Mat := xs.getD i WD
theorem xS (xs : List Mat) (i : Nat) : A1 (Ck xs) i = (match xs[i]? with | some s => s.ls | none => []) := by
 unfold A1 Ck
 rw [List.getD_eq_getElem?_getD, List.getElem?_map]
 cases xs[i]? <;> rfl
theorem vR (xs : List Mat) (i : Nat) : mtn xs i = (match xs[i]? with | some s => s | none => WD) := by
 unfold mtn
 rw [List.getD_eq_getElem?_getD]
 cases xs[i]? <;> rfl
theorem PXq : (∀ xs : List Mat, (Ck xs).length = xs.length) ∧ (∀ (xs : List Mat) (i : Nat), pvS (AG (Ck xs) i 0) = (mtn xs i).rules.name) ∧
    (∀ (xs : List Mat) (i : Nat), pvI (AG (Ck xs) i 1) = (mtn xs i).rules.side) ∧
    (∀ (xs : List Mat) (i : Nat), pvI (AG (Ck xs) i 2) = (mtn xs i).rules.innings) ∧
    (∀ (xs : List Mat) (i : Nat), pvI (AG (Ck xs) i 3) = (mtn xs i).rules.overs) ∧
    (∀ (xs : List Mat) (i : Nat), pvI (AG (Ck xs) i 4) = (mtn xs i).rules.balls) ∧
    (∀ (xs : List Mat) (i : Nat), pvI (AG (Ck xs) i 5) = (mtn xs i).rules.quota) ∧
    (∀ (xs : List Mat) (i : Nat), pvI (AG (Ck xs) i 6) = (mtn xs i).rules.wide) ∧
    (∀ (xs : List Mat) (i : Nat), pvI (AG (Ck xs) i 7) = (mtn xs i).rules.noball) ∧
    (∀ (xs : List Mat) (i : Nat), pvB (AG (Ck xs) i 8) = (mtn xs i).rules.freehit) ∧
    (∀ (xs : List Mat) (i : Nat), pvI (AG (Ck xs) i 9) = (mtn xs i).rules.newball) ∧
    (∀ (xs : List Mat) (i : Nat), pvI (AG (Ck xs) i 10) = (mtn xs i).rules.followon) ∧
    (∀ (xs : List Mat) (i : Nat), pvI (AG (Ck xs) i 11) = (mtn xs i).rules.reviews) ∧
    (∀ (xs : List Mat) (i : Nat), pvI (AG (Ck xs) i 12) = (mtn xs i).rules.outside) ∧
    (∀ (xs : List Mat) (i : Nat), pvL (AG (Ck xs) i 13) = (mtn xs i).rules.power) ∧
    (∀ (xs : List Mat) (i : Nat), pvI (AG (Ck xs) i 14) = (mtn xs i).stage) ∧
    (∀ (xs : List Mat) (i : Nat), pvI (AG (Ck xs) i 15) = (mtn xs i).first) ∧
    (∀ (xs : List Mat) (i : Nat), pvB (AG (Ck xs) i 16) = (mtn xs i).follow) ∧
    (∀ (xs : List Mat) (i : Nat), pvL (AG (Ck xs) i 17) = AQ (mtn xs i).inns) ∧
    (∀ (xs : List Mat) (i : Nat), pvI (AG (Ck xs) i 18) = (mtn xs i).pen1) ∧
    (∀ (xs : List Mat) (i : Nat), pvI (AG (Ck xs) i 19) = (mtn xs i).pen2) ∧
    (∀ (xs : List Mat) (i : Nat), pvI (AG (Ck xs) i 20) = (mtn xs i).win) ∧
    (∀ (xs : List Mat) (i : Nat), pvI (AG (Ck xs) i 21) = (mtn xs i).wside) ∧
    (∀ (xs : List Mat) (i : Nat), pvI (AG (Ck xs) i 22) = (mtn xs i).margin) := by
  refine ⟨fun xs => List.length_map _, ?_, ?_, ?_, ?_, ?_, ?_, ?_, ?_, ?_, ?_, ?_, ?_, ?_, ?_, ?_, ?_, ?_, ?_, ?_, ?_, ?_, ?_, ?_⟩
  all_goals (intro xs i; rw [vR]; unfold AG; rw [xS]; cases xs[i]? <;> rfl)
theorem xL (xs : List Mat) (m : Mat) : Ck xs ++ [m.ls] = Ck (xs ++ [m]) := by
 show List.map Mat.ls xs ++ List.map Mat.ls [m] = List.map Mat.ls (xs ++ [m])
 exact List.map_append.symm
def sts (r : Rul) (L : Rows) (n : Nat) : List Mat := (List.range n).map fun j : Nat => (atS r L (j : Int)).1
theorem sQ (r : Rul) (L : Rows) (n : Nat) : (sts r L n).length = n := by unfold sts; rw [List.length_map, List.length_range]
theorem vq (r : Rul) (L : Rows) (n j : Nat) (h : j < n) : mtn (sts r L n) j = (atS r L (j : Int)).1 := by
 rw [vR]
 unfold sts
 rw [List.getElem?_map, List.getElem?_range h]
 rfl
theorem wz (r : Rul) (L : Rows) (n : Nat) : sts r L (n + 1) = sts r L n ++ [(atS r L (n : Int)).1] := by
 unfold sts
 rw [List.range_succ, List.map_append]
 rfl
set_option maxHeartbeats 4000000 in
theorem bz {N : Nat} {r1 r2 r3 r4 r5 r6 r7 r9 r10 r11 r12 : Int} {r8 : Bool} {r0 : ByteArray} {r13 : Rows} {L : Rows} (hN : 2097152 < N) (hs : r0.size ≤ 1048576) (h13 : r13.length ≤ 1048576) (hL : L.length ≤ 1000000) : J3 N [.str r0, .int r1, .int r2, .int r3, .int r4, .int r5, .int r6, .int r7, .bool r8, .int r9, .int r10, .int r11, .int r12, .rows r13, .rows L] = some [.rows (Ck (sts (⟨r0, r1, r2, r3, r4, r5, r6, r7, r8, r9, r10, r11, r12, r13⟩ : Rul) L (L.length + 1)))] := by
 show J2 (std (E3 N) N) (xOf _) = _
 generalize hres : (some [.rows (Ck (sts (⟨r0, r1, r2, r3, r4, r5, r6, r7, r8, r9, r10, r11, r12, r13⟩ : Rul) L (L.length + 1)))] : Option (List PV)) = RR
 simp only [J2, Ps, std, xOf, PXb]
 subst hres
 refine AK (Dg (len := L.length + 1) (fun i => [.rows (Ck (sts (⟨r0, r1, r2, r3, r4, r5, r6, r7, r8, r9, r10, r11, r12, r13⟩ : Rul) L i)), .int (i : Int)]) [.rows (Ck (sts (⟨r0, r1, r2, r3, r4, r5, r6, r7, r8, r9, r10, r11, r12, r13⟩ : Rul) L (L.length + 1)))] ?_ ?_ N (by omega)) rfl
 ·intro self
  have : iLe ((L.length + 1 : Nat) : Int) (L.length : Int) = false := by simp only [iLe, decide_eq_false_iff_not]; omega
  simp only [PXb, PXc, PXn, AA, this]
 ·intro i self hi
  have h1 : iLe (i : Int) (L.length : Int) = true := by simp only [iLe, decide_eq_true_eq]; omega
  have h224 : iSm ((i + 1 : Nat) : Int) 224 = true := Gx (by omega) (by omega)
  have ap := xL (sts (⟨r0, r1, r2, r3, r4, r5, r6, r7, r8, r9, r10, r11, r12, r13⟩ : Rul) L i) (atS (⟨r0, r1, r2, r3, r4, r5, r6, r7, r8, r9, r10, r11, r12, r13⟩ : Rul) L (i : Int)).1
  simp only [Mat.ls] at ap
  simp only [PXb, PXc, PXn, AA, AN (show i ≤ 1099511627776 by omega), h1, Ps, v7 hN hs h13 (show L.length ≤ 1048576 by omega), Em, PXc, Nat.reduceAdd, List.length_append, List.length_cons, List.length_nil, PXq, sQ, h224, ap, wz]
  rfl
def fwd (S : Nat → Bool) : Nat → Int × Int × Bool
 | 0 => (0, 0, true)
 | i + 1 => cond (S (i + 1)) (cond (fwd S i).2.2 ((i + 1 : Nat) : Int) (fwd S i).1, (fwd S i).2.1, (fwd S i).2.2) ((fwd S i).1, ((i + 2 : Nat) : Int), false)
def lI (S : Nat → Bool) : Nat → Nat → Nat
 | 0, i => i
 | k + 1, i => cond (S (i + 1)) (lI S k (i + 1)) i
def Zh (S : Nat → Bool) : Nat → Nat
 | 0 => 0
 | j + 1 => cond (S j) (Zh S j) (j + 1)
theorem pj (S : Nat → Bool) (h0 : S 0 = true) : ∀ n, (fwd S n).2.1 = (Zh S (n + 1) : Int)
 | 0 => by simp only [fwd, Zh, h0]; rfl
 | n + 1 => by
  have ih := pj S h0 n
  rw [fwd, Zh]
  cases S (n + 1)
  ·rfl
  ·exact ih
theorem sS (S : Nat → Bool) (i : Nat) (h : (fwd S i).2.2 = false) : ∀ k, (fwd S (i + k)).1 = (fwd S i).1 ∧ (fwd S (i + k)).2.2 = false
 | 0 => ⟨rfl, h⟩
 | k + 1 => by
  obtain ⟨h1, h2⟩ := sS S i h k
  rw [show i + (k + 1) = i + k + 1 by omega, fwd]
  cases S (i + k + 1)
  ·exact ⟨h1, rfl⟩
  ·simp only [cond_true, h2, cond_false]
   exact ⟨h1, trivial⟩
theorem qD (S : Nat → Bool) : ∀ k i, (fwd S i).1 = (i : Int) → (fwd S i).2.2 = true → (fwd S (i + k)).1 = (lI S k i : Int)
 | 0, _, h, _ => h
 | k + 1, i, h, he => by
  rw [show i + (k + 1) = i + 1 + k by omega]
  cases hs : S (i + 1) with
  | false =>
   have e : fwd S (i + 1) = ((fwd S i).1, ((i + 2 : Nat) : Int), false) := by rw [fwd, hs]; rfl
   have := (sS S (i + 1) (by rw [e]) k).1
   rw [this, e, lI, hs]
   exact h
  | true =>
   have e : fwd S (i + 1) = (((i + 1 : Nat) : Int), (fwd S i).2.1, true) := by rw [fwd, hs, he]; rfl
   rw [lI, hs]
   exact qD S k (i + 1) (by rw [e]) (by rw [e])
def HQ (r : Rul) (A B : Rows) (j : Nat) : Bool := Nr (stM A j 0 (Bf r).1) (stM B j 0 (Bf r).1)
def cY (r : Rul) (A B : Rows) : Int × Int × Int :=
 cond (!(DY r A == 0)) (0, 0, DY r A) (cond (!(DY r B == 0)) (0, 0, DY r B) (cond (!((A.length : Int) == (B.length : Int))) (0, 0, 1) ((fwd (HQ r A B) A.length).1, (fwd (HQ r A B) A.length).2.1, 0)))
theorem Wf {r : Rul} {L : Rows} (h : (DY r L == 0) = true) : (Ax r == 0) = true ∧ acc L L.length 0 (Bf r).1 := by
 unfold DY at h
 cases hc : Ax r == 0 with
 | false => rw [hc] at h; exact absurd (show (Ax r == 0) = true from h) (by rw [hc]; decide)
 | true =>
  rw [hc] at h
  cases h4 : iLt 4000 (L.length : Int) with
  | true => rw [h4] at h; cases h
  | false =>
   rw [h4] at h
   obtain ⟨k, h1, h2, _, h5⟩ := ow L L.length 0 (Bf r).1
   have hr : BQ r L = BU L L.length 0 (Bf r).1 := by unfold BQ; rw [T8, hc]; rfl
   rcases h5 with ⟨h6, _⟩ | ⟨_, h6, h7⟩
   ·subst h6; exact ⟨rfl, h2⟩
   ·rw [hr, h7] at h
    simp only [h6] at h
    cases h
theorem mP {St : Type} {body : Nat → St → List PV ⊕ St} {fin : St → List PV} (I : Nat → St → Prop) (nx : Nat → St → St) (hb : ∀ i s, body i s = .inr (nx i s)) (hI : ∀ i s, I i s → I (i + 1) (nx i s)) :
    ∀ k i s, I i s → ∃ s', I (i + k) s' ∧ KY body fin k i s = fin s'
  | 0, i, s, h => ⟨s, h, rfl⟩
  | k + 1, i, s, h => by
    obtain ⟨s', h1, h2⟩ := mP I nx hb hI k (i + 1) (nx i s) (hI i s h)
    refine ⟨s', by rw [show i + (k + 1) = i + 1 + k by omega]; exact h1, ?_⟩
    simp only [KY, hb]
    exact h2
def wU (A B : Rows) (i : Nat) (s : Mat × Mat × Int × Int × Bool) : Mat × Mat × Int × Int × Bool :=
  ((CQ s.1 (evR A i)).1, (CQ s.2.1 (evR B i)).1, cond (Nr (CQ s.1 (evR A i)).1 (CQ s.2.1 (evR B i)).1) (cond s.2.2.2.2 ((i + 1 : Nat) : Int) s.2.2.1, s.2.2.2.1, s.2.2.2.2) (s.2.2.1, ((i + 2 : Nat) : Int), false))
theorem ZW {L : Rows} {m : Mat} {i : Nat} (h : acc L L.length 0 m) (hi : i < L.length) : stM L (i + 1) 0 m = (CQ (stM L i 0 m) (evR L i)).1 := by
 have h1 := kj L.length (i + 1) 0 m hi h
 have h2 : ∀ k j x, acc L (k + 1) j x → ((Av ((j + k : Nat) : Int) (stM L k j x) (evR L (j + k))).2 == 0) = true := by
  intro k
  induction k with
  | zero => intro j x hx; exact hx.1
  | succ k ih =>
   intro j x hx
   have := ih (j + 1) _ hx.2
   rw [show j + 1 + k = j + (k + 1) by omega] at this
   exact this
 have h3 := h2 i 0 m h1
 rw [pq i 0 m, Nat.zero_add]
 rw [Nat.zero_add] at h3
 rw [(ux h3).1]
set_option maxHeartbeats 8000000 in
theorem Un {N : Nat} {r1 r2 r3 r4 r5 r6 r7 r9 r10 r11 r12 : Int} {r8 : Bool} {r0 : ByteArray} {r13 : Rows} {A B : Rows} (hN : 2097152 < N) (hs : r0.size ≤ 1048576) (h13 : r13.length ≤ 1048576) (hA : A.length ≤ 1000000) (hB : B.length ≤ 1000000) : CJ N [.str r0, .int r1, .int r2, .int r3, .int r4, .int r5, .int r6, .int r7, .bool r8, .int r9, .int r10, .int r11, .int r12, .rows r13, .rows A, .rows B] = some (Qv (cY (⟨r0, r1, r2, r3, r4, r5, r6, r7, r8, r9, r10, r11, r12, r13⟩ : Rul) A B)) := by
  show IJ (std (CK N) N) (xOf _) = _
  generalize hres : (some (Qv (cY (⟨r0, r1, r2, r3, r4, r5, r6, r7, r8, r9, r10, r11, r12, r13⟩ : Rul) A B)) : Option (List PV)) = RR
  simp only [IJ, SP, SN, G5, Hz, Hu, std, xOf, PXb, XW hN hs h13 (show A.length ≤ 1048576 by omega), XW hN hs h13 (show B.length ≤ 1048576 by omega), gC hN hs h13]
  subst hres
  unfold cY
  cases ha : DY (⟨r0, r1, r2, r3, r4, r5, r6, r7, r8, r9, r10, r11, r12, r13⟩ : Rul) A == 0
  case false => simp only [PXb, ha]; rfl
  cases hb : DY (⟨r0, r1, r2, r3, r4, r5, r6, r7, r8, r9, r10, r11, r12, r13⟩ : Rul) B == 0
  case false => simp only [PXb, ha, hb]; rfl
  cases hl : (A.length : Int) == (B.length : Int)
  case false => simp only [PXb, ha, hb, hl]; rfl
  obtain ⟨hc, aa⟩ := Wf ha
  obtain ⟨_, ab⟩ := Wf hb
  have hlen := beq_iff_eq.1 hl
  have okm := eZ (⟨r0, r1, r2, r3, r4, r5, r6, r7, r8, r9, r10, r11, r12, r13⟩ : Rul) ((T8 (⟨r0, r1, r2, r3, r4, r5, r6, r7, r8, r9, r10, r11, r12, r13⟩ : Rul)).trans hc)
  have n2 : ((Bf (⟨r0, r1, r2, r3, r4, r5, r6, r7, r8, r9, r10, r11, r12, r13⟩ : Rul)).2 == 0) = true := (T8 (⟨r0, r1, r2, r3, r4, r5, r6, r7, r8, r9, r10, r11, r12, r13⟩ : Rul)).trans hc
  have o1 := okm.rules
  have on := fun L i => tM (L := L) i 0 _ okm
  simp only [PXb, PXc, ha, hb, hl, Em, n2, Nat.reduceAdd, G5, aO okm.fit hN (Nat.le_trans okm.len (show 5 ≤ 1000000 by omega)) (show (Bf (⟨r0, r1, r2, r3, r4, r5, r6, r7, r8, r9, r10, r11, r12, r13⟩ : Rul)).1.rules.power.length ≤ 1048576 by rw [o1]; exact h13)]
  refine AK (NB (St := Mat × Mat × Int × Int × Bool) (len := A.length) (enc := fun i s => [.int s.2.2.1, .int s.2.2.2.1, .bool s.2.2.2.2, .int (i : Int), .str s.1.rules.name, .int s.1.rules.side, .int s.1.rules.innings, .int s.1.rules.overs, .int s.1.rules.balls, .int s.1.rules.quota, .int s.1.rules.wide, .int s.1.rules.noball, .bool s.1.rules.freehit, .int s.1.rules.newball, .int s.1.rules.followon, .int s.1.rules.reviews, .int s.1.rules.outside, .rows s.1.rules.power, .int s.1.stage, .int s.1.first, .bool s.1.follow, .rows (AQ s.1.inns), .int s.1.pen1, .int s.1.pen2, .int s.1.win, .int s.1.wside, .int s.1.margin, .str s.2.1.rules.name, .int s.2.1.rules.side, .int s.2.1.rules.innings, .int s.2.1.rules.overs, .int s.2.1.rules.balls, .int s.2.1.rules.quota, .int s.2.1.rules.wide, .int s.2.1.rules.noball, .bool s.2.1.rules.freehit, .int s.2.1.rules.newball, .int s.2.1.rules.followon, .int s.2.1.rules.reviews, .int s.2.1.rules.outside, .rows s.2.1.rules.power, .int s.2.1.stage, .int s.2.1.first, .bool s.2.1.follow, .rows (AQ s.2.1.inns), .int s.2.1.pen1, .int s.2.1.pen2, .int s.2.1.win, .int s.2.1.wside, .int s.2.1.margin])
    (body := fun i s => .inr (wU A B i s)) (fin := fun s => [.int s.2.2.1, .int s.2.2.2.1]) (fun i s => s.1 = stM A i 0 (Bf (⟨r0, r1, r2, r3, r4, r5, r6, r7, r8, r9, r10, r11, r12, r13⟩ : Rul)).1 ∧ s.2.1 = stM B i 0 (Bf (⟨r0, r1, r2, r3, r4, r5, r6, r7, r8, r9, r10, r11, r12, r13⟩ : Rul)).1) ?_ ?_ A.length 0 ((Bf (⟨r0, r1, r2, r3, r4, r5, r6, r7, r8, r9, r10, r11, r12, r13⟩ : Rul)).1, (Bf (⟨r0, r1, r2, r3, r4, r5, r6, r7, r8, r9, r10, r11, r12, r13⟩ : Rul)).1, 0, 0, true) N (by omega) (by omega) ⟨rfl, rfl⟩) ?_
  · intro s self _
    simp only [PXb, PXc, PXn, AA, Aj]
  · intro i s self hi hs2
    have ok1 := on A i
    have ok2 := on B i
    rw [← hs2.1] at ok1
    rw [← hs2.2] at ok2
    have hib : i < B.length := by omega
    have k1 := Za ok1 (evR A i)
    have k2 := Za ok2 (evR B i)
    have nm : ∀ x : Mat, x.rules = (⟨r0, r1, r2, r3, r4, r5, r6, r7, r8, r9, r10, r11, r12, r13⟩ : Rul) → x.rules.name.size ≤ 1048576 ∧ x.rules.power.length ≤ 1048576 := fun x hx => by rw [hx]; exact ⟨hs, h13⟩
    have w2 : IntKind.i64.wrap ((i : Int) + 2) = (i : Int) + 2 := EZ (by omega) (by omega)
    refine ⟨?_, fun s' h => ?_⟩
    · simp only [PXb, PXc, PXn, AA, AN (show i ≤ 1099511627776 by omega), w2, Ae hi, AP hi, AP hib, A2, YC, Nat.reduceAdd, Hz, Uf hN ok1.fit (Nat.le_trans ok1.len (show 5 ≤ 1000000 by omega)) (nm _ ok1.rules).1 (nm _ ok1.rules).2, Uf hN ok2.fit (Nat.le_trans ok2.len (show 5 ≤ 1000000 by omega)) (nm _ ok2.rules).1 (nm _ ok2.rules).2, Em, PXc, so,
        Hu, pz hN (k2.rules.trans k1.rules.symm) k1.fit (Nat.le_trans k1.len (show 5 ≤ 1000000 by omega)) (nm _ k1.rules).2]
      change (cond (Nr (CQ s.1 (evR A i)).1 (CQ s.2.1 (evR B i)).1) _ _) = _
      unfold wU
      cases Nr (CQ s.1 (evR A i)).1 (CQ s.2.1 (evR B i)).1
      · rfl
      · cases s.2.2.2.2 <;> rfl
    · cases h
      have a1 := ZW aa hi
      have a2 := ZW (i := i) ab hib
      exact ⟨by rw [a1, ← hs2.1]; rfl, by rw [a2, ← hs2.2]; rfl⟩
  · obtain ⟨s', h1, h2⟩ := mP (fin := fun s => [.int s.2.2.1, .int s.2.2.2.1]) (fun i s => i ≤ A.length → (s.1 = stM A i 0 (Bf (⟨r0, r1, r2, r3, r4, r5, r6, r7, r8, r9, r10, r11, r12, r13⟩ : Rul)).1 ∧ s.2.1 = stM B i 0 (Bf (⟨r0, r1, r2, r3, r4, r5, r6, r7, r8, r9, r10, r11, r12, r13⟩ : Rul)).1) ∧ s.2.2 = fwd (HQ (⟨r0, r1, r2, r3, r4, r5, r6, r7, r8, r9, r10, r11, r12, r13⟩ : Rul) A B) i) (wU A B) (fun _ _ => rfl) (fun i s h hi => by
      obtain ⟨⟨e1, e2⟩, e3⟩ := h (by omega)
      have a1 := ZW (i := i) aa (by omega)
      have a2 := ZW (i := i) ab (by omega)
      refine ⟨⟨by rw [a1, ← e1]; rfl, by rw [a2, ← e2]; rfl⟩, ?_⟩
      rw [fwd, ← e3]
      unfold HQ
      rw [a1, a2, ← e1, ← e2]
      rfl) A.length 0 ((Bf (⟨r0, r1, r2, r3, r4, r5, r6, r7, r8, r9, r10, r11, r12, r13⟩ : Rul)).1, (Bf (⟨r0, r1, r2, r3, r4, r5, r6, r7, r8, r9, r10, r11, r12, r13⟩ : Rul)).1, 0, 0, true) (fun _ => ⟨⟨rfl, rfl⟩, rfl⟩)
    rw [h2]
    rw [Nat.zero_add] at h1
    have e3 := (h1 (Nat.le_refl _)).2
    rw [← e3]
    rfl
theorem uG {N : Nat} {m1 m2 m3 m4 m5 m6 m7 m9 m10 m11 m12 m14 m15 m18 m19 m20 m21 m22 : Int} {m8 m16 : Bool} {m0 : ByteArray} {m13 : Rows} {m17 : List Inn} {k1 k2 k3 k4 k5 k6 k7 k9 k10 k11 k12 k14 k15 k18 k19 k20 k21 k22 : Int} {k8 k16 : Bool} {k0 : ByteArray} {k13 : Rows} {k17 : List Inn} (hN : 2097152 < N) (hr : (⟨k0, k1, k2, k3, k4, k5, k6, k7, k8, k9, k10, k11, k12, k13⟩ : Rul) = (⟨m0, m1, m2, m3, m4, m5, m6, m7, m8, m9, m10, m11, m12, m13⟩ : Rul)) (hf : Cw m17) (hl : m17.length ≤ 1000000) (h13 : m13.length ≤ 1048576) : OE N [.str m0, .int m1, .int m2, .int m3, .int m4, .int m5, .int m6, .int m7, .bool m8, .int m9, .int m10, .int m11, .int m12, .rows m13, .int m14, .int m15, .bool m16, .rows (AQ m17), .int m18, .int m19, .int m20, .int m21, .int m22, .str k0, .int k1, .int k2, .int k3, .int k4, .int k5, .int k6, .int k7, .bool k8, .int k9, .int k10, .int k11, .int k12, .rows k13, .int k14, .int k15, .bool k16, .rows (AQ k17), .int k18, .int k19, .int k20, .int k21, .int k22] = some [.bool (Nr (⟨⟨m0, m1, m2, m3, m4, m5, m6, m7, m8, m9, m10, m11, m12, m13⟩, m14, m15, m16, m17, m18, m19, m20, m21, m22⟩ : Mat) (⟨⟨k0, k1, k2, k3, k4, k5, k6, k7, k8, k9, k10, k11, k12, k13⟩, k14, k15, k16, k17, k18, k19, k20, k21, k22⟩ : Mat))] := by
 show S9 (std (VC N) N) (xOf _) = _
 simp only [S9, bJ, std, xOf, PXb, PXc, PXn, PXm, Nat.reduceAdd, Int.reduceBEq, tC hN hr hf hl h13]
theorem tN (m : Mat) : Nr m m = true := by
 unfold Nr eM
 simp only [beq_self_eq_true, Bool.true_and, vO, Bool.not_true, sF, Bool.not_false]
theorem my (S : Nat → Bool) (n : Nat) : ∀ k i, i + k = n → KY (St := Unit) (fun i _ => cond (S (i + 1)) (.inr ()) (.inl [.int (i : Int)])) (fun _ => [.int (n : Int)]) k i () = [.int (lI S k i : Int)]
 | 0, i, h => by rw [show n = i by omega]; rfl
 | k + 1, i, h => by
  simp only [KY, lI]
  cases S (i + 1)
  ·rfl
  ·exact my S n k (i + 1) (by omega)
theorem mW (S : Nat → Bool) (n : Nat) : ∀ k t, t + k = n + 1 → KY (St := Unit) (fun t _ => cond (S (n - t)) (.inr ()) (.inl [.int ((n : Int) + 1 - (t : Int))])) (fun _ => [.int 0]) k t () = [.int (Zh S k : Int)]
 | 0, t, h => rfl
 | k + 1, t, h => by
  simp only [KY, Zh]
  rw [show n - t = k by omega]
  cases S k
  ·simp only [cond_false]
   rw [show (n : Int) + 1 - (t : Int) = ((k + 1 : Nat) : Int) by omega]
  ·exact mW S n k (t + 1) (by omega)
set_option maxHeartbeats 8000000 in
theorem qR {N : Nat} {r1 r2 r3 r4 r5 r6 r7 r9 r10 r11 r12 : Int} {r8 : Bool} {r0 : ByteArray} {r13 : Rows} {A B : Rows} (hN : 2097152 < N) (hs : r0.size ≤ 1048576) (h13 : r13.length ≤ 1048576) (hA : A.length ≤ 1000000) (hB : B.length ≤ 1000000) : Hl N [.str r0, .int r1, .int r2, .int r3, .int r4, .int r5, .int r6, .int r7, .bool r8, .int r9, .int r10, .int r11, .int r12, .rows r13, .rows A, .rows B] = some (Qv (cY (⟨r0, r1, r2, r3, r4, r5, r6, r7, r8, r9, r10, r11, r12, r13⟩ : Rul) A B)) := by
 show KN (std (C0 N) N) (xOf _) = _
 generalize hres : (some (Qv (cY (⟨r0, r1, r2, r3, r4, r5, r6, r7, r8, r9, r10, r11, r12, r13⟩ : Rul) A B)) : Option (List PV)) = RR
 simp only [KN, Wk, VM, YR, std, xOf, PXb, fR hN hs h13 (show A.length ≤ 1048576 by omega), fR hN hs h13 (show B.length ≤ 1048576 by omega), bz hN hs h13 hA, bz hN hs h13 hB]
 subst hres
 unfold cY
 cases ha : DY (⟨r0, r1, r2, r3, r4, r5, r6, r7, r8, r9, r10, r11, r12, r13⟩ : Rul) A == 0
 case false => simp only [PXb, ha]; rfl
 cases hb : DY (⟨r0, r1, r2, r3, r4, r5, r6, r7, r8, r9, r10, r11, r12, r13⟩ : Rul) B == 0
 case false => simp only [PXb, ha, hb]; rfl
 cases hl : (A.length : Int) == (B.length : Int)
 case false => simp only [PXb, ha, hb, hl]; rfl
 obtain ⟨hc, aa⟩ := Wf ha
 obtain ⟨_, ab⟩ := Wf hb
 have hlen := beq_iff_eq.1 hl
 have okm := eZ (⟨r0, r1, r2, r3, r4, r5, r6, r7, r8, r9, r10, r11, r12, r13⟩ : Rul) ((T8 (⟨r0, r1, r2, r3, r4, r5, r6, r7, r8, r9, r10, r11, r12, r13⟩ : Rul)).trans hc)
 have on := fun L i => tM (L := L) i 0 _ okm
 have xa : ∀ j, j ≤ A.length → mtn (sts (⟨r0, r1, r2, r3, r4, r5, r6, r7, r8, r9, r10, r11, r12, r13⟩ : Rul) A (A.length + 1)) j = stM A j 0 (Bf (⟨r0, r1, r2, r3, r4, r5, r6, r7, r8, r9, r10, r11, r12, r13⟩ : Rul)).1 := fun j hj => by
  rw [vq _ _ _ _ (by omega), o8 hc hj (kj _ _ _ _ hj aa)]
 have xb : ∀ j, j ≤ A.length → mtn (sts (⟨r0, r1, r2, r3, r4, r5, r6, r7, r8, r9, r10, r11, r12, r13⟩ : Rul) B (B.length + 1)) j = stM B j 0 (Bf (⟨r0, r1, r2, r3, r4, r5, r6, r7, r8, r9, r10, r11, r12, r13⟩ : Rul)).1 := fun j hj => by
  rw [vq _ _ _ _ (by omega), o8 hc (by omega) (kj _ _ _ _ (by omega) ab)]
 have nm : ∀ x : Mat, x.rules = (⟨r0, r1, r2, r3, r4, r5, r6, r7, r8, r9, r10, r11, r12, r13⟩ : Rul) → x.rules.name.size ≤ 1048576 ∧ x.rules.power.length ≤ 1048576 := fun x hx => by rw [hx]; exact ⟨hs, h13⟩
 have sm : ∀ j, (hj : j ≤ A.length) → OE N ((mtn (sts (⟨r0, r1, r2, r3, r4, r5, r6, r7, r8, r9, r10, r11, r12, r13⟩ : Rul) A (A.length + 1)) j).ls ++ (mtn (sts (⟨r0, r1, r2, r3, r4, r5, r6, r7, r8, r9, r10, r11, r12, r13⟩ : Rul) B (B.length + 1)) j).ls) = some [.bool (HQ (⟨r0, r1, r2, r3, r4, r5, r6, r7, r8, r9, r10, r11, r12, r13⟩ : Rul) A B j)] := fun j hj => by
  rw [xa j hj, xb j hj]
  have o1 := on A j
  have o2 := on B j
  exact uG hN (o2.rules.trans o1.rules.symm) o1.fit (Nat.le_trans o1.len (show 5 ≤ 1000000 by omega)) (nm _ o1.rules).2
 simp only [Mat.ls, List.cons_append, List.nil_append] at sm
 simp only [PXb, PXc, ha, hb, hl, Nat.reduceAdd, PXq, sQ]
 have w1 : IntKind.i64.wrap ((A.length : Int) + 1) = (A.length : Int) + 1 := AN (by omega)
 refine AK (NB (St := Unit) (len := A.length) (enc := fun i _ => [.int (i : Int)]) (body := fun i _ => cond (HQ (⟨r0, r1, r2, r3, r4, r5, r6, r7, r8, r9, r10, r11, r12, r13⟩ : Rul) A B (i + 1)) (.inr ()) (.inl [.int (i : Int)])) (fin := fun _ => [.int (A.length : Int)]) (fun _ _ => True) ?_ ?_ A.length 0 () N (by omega) (by omega) trivial) ?_
 ·intro s self _
  simp only [PXb, PXc, PXn, AA, Aj]
 ·intro i s self hi _
  refine ⟨?_, fun _ _ => trivial⟩
  have n1 : iIn ((i : Int) + 1) ((A.length + 1 : Nat) : Int) = true := by simp [iIn]; omega
  have n2 : iIn ((i : Int) + 1) ((B.length + 1 : Nat) : Int) = true := by simp [iIn]; omega
  have n3 : ((i : Int) + 1).toNat = i + 1 := by omega
  simp only [PXb, PXc, PXn, AA, AN (show i ≤ 1099511627776 by omega), Ae hi, n1, n2, n3, sm (i + 1) hi]
  cases HQ (⟨r0, r1, r2, r3, r4, r5, r6, r7, r8, r9, r10, r11, r12, r13⟩ : Rul) A B (i + 1) <;> rfl
 rw [my _ _ _ _ (by omega)]
 simp only [w1]
 refine AK (r := [.int (Zh (HQ (⟨r0, r1, r2, r3, r4, r5, r6, r7, r8, r9, r10, r11, r12, r13⟩ : Rul) A B) (A.length + 1) : Int)]) ?_ ?_
 ·rw [← mW (HQ (⟨r0, r1, r2, r3, r4, r5, r6, r7, r8, r9, r10, r11, r12, r13⟩ : Rul) A B) A.length (A.length + 1) 0 (by omega)]
  have z : ([.int ((A.length : Int) + 1)] : List PV) = (([.int ((A.length : Int) + 1 - ((0 : Nat) : Int))] : List Ai).map Leaf.pv) := by
   rw [show (A.length : Int) + 1 - ((0 : Nat) : Int) = (A.length : Int) + 1 by omega]
   rfl
  rw [z]
  refine NB (St := Unit) (len := A.length + 1) (enc := fun t _ => [.int ((A.length : Int) + 1 - (t : Int))]) (body := fun t _ => cond (HQ (⟨r0, r1, r2, r3, r4, r5, r6, r7, r8, r9, r10, r11, r12, r13⟩ : Rul) A B (A.length - t)) (.inr ()) (.inl [.int ((A.length : Int) + 1 - (t : Int))])) (fin := fun _ => [.int 0]) (fun _ _ => True) ?_ ?_ (A.length + 1) 0 () N (by omega) (by omega) trivial
  ·intro s self _
   have e : (A.length : Int) + 1 - ((A.length + 1 : Nat) : Int) = 0 := by omega
   have g0 : iLt 0 0 = false := rfl
   simp only [PXb, PXc, PXn, AA, e, g0]
  ·intro t s self ht _
   refine ⟨?_, fun _ _ => trivial⟩
   obtain ⟨k, hk⟩ : ∃ k, A.length = t + k := ⟨A.length - t, by omega⟩
   have e : (A.length : Int) + 1 - (t : Int) = (k : Int) + 1 := by omega
   have e1 : (A.length : Int) + 1 - ((t + 1 : Nat) : Int) = (k : Int) := by omega
   have e2 : A.length - t = k := by omega
   have w2 : IntKind.i64.wrap ((k : Int) + 1 - 1) = (k : Int) := by rw [show (k : Int) + 1 - 1 = (k : Int) by omega]; exact EZ (by omega) (by omega)
   have n1 : iIn (k : Int) ((A.length + 1 : Nat) : Int) = true := by simp [iIn]; omega
   have n2 : iIn (k : Int) ((B.length + 1 : Nat) : Int) = true := by simp [iIn]; omega
   have n4 : iLt 0 ((k : Int) + 1) = true := by simp only [iLt, decide_eq_true_eq]; omega
   have n3 : (k : Int).toNat = k := by omega
   simp only [PXb, PXc, PXn, AA, e, e1, e2, w2, n1, n2, n3, n4, sm k (by omega)]
   cases HQ (⟨r0, r1, r2, r3, r4, r5, r6, r7, r8, r9, r10, r11, r12, r13⟩ : Rul) A B k <;> rfl
 ·have h0 : HQ (⟨r0, r1, r2, r3, r4, r5, r6, r7, r8, r9, r10, r11, r12, r13⟩ : Rul) A B 0 = true := tN _
  have hw := qD (HQ (⟨r0, r1, r2, r3, r4, r5, r6, r7, r8, r9, r10, r11, r12, r13⟩ : Rul) A B) A.length 0 rfl rfl
  rw [Nat.zero_add] at hw
  rw [pj _ h0, hw]
  rfl
end Go.Px
end
section
namespace Go.Px
set_option maxRecDepth 100000
def qb (r : Rul) (L : Rows) : Rows × Int × Int := cond (!((BQ r L).2.2 == 0)) ([], (BQ r L).2.1, (BQ r L).2.2) (L, -1, 0)
def WJ (x : Rows × Int × Int) : List PV := [.rows x.1, .int x.2.1, .int x.2.2]
theorem fG {N : Nat} {r1 r2 r3 r4 r5 r6 r7 r9 r10 r11 r12 : Int} {r8 : Bool} {r0 : ByteArray} {r13 : Rows} {L : Rows} (hN : 2097152 < N) (hs : r0.size ≤ 1048576) (h13 : r13.length ≤ 1048576) (hL : L.length ≤ 1048576) : DH N [.str r0, .int r1, .int r2, .int r3, .int r4, .int r5, .int r6, .int r7, .bool r8, .int r9, .int r10, .int r11, .int r12, .rows r13, .rows L] = some (WJ (qb (⟨r0, r1, r2, r3, r4, r5, r6, r7, r8, r9, r10, r11, r12, r13⟩ : Rul) L)) := by
 show EY (std (Ce N) N) (xOf _) = _
 generalize hres : (some (WJ (qb (⟨r0, r1, r2, r3, r4, r5, r6, r7, r8, r9, r10, r11, r12, r13⟩ : Rul) L)) : Option (List PV)) = RR
 simp only [EY, QG, std, xOf, PXb, eB hN hs h13 hL, TH, PXc]
 subst hres; simp only [qb]
 cases (BQ (⟨r0, r1, r2, r3, r4, r5, r6, r7, r8, r9, r10, r11, r12, r13⟩ : Rul) L).2.2 == 0 <;> rfl
def pX (e : Ev) : List PV := [.int e.kind, .int e.side, .int e.player, .int e.other, .bool e.yes, .int e.runs, .int e.overs] ++ e.ball.ls
def edL (L : Rows) (k : Int) (e : Ev) : Rows := L.set k.toNat (Br (A1 L k.toNat) 0 (pX e))
theorem qS (L : Rows) (k : Int) (e : Ev) : (edL L k e).length = L.length := List.length_set
def edS (r : Rul) (L : Rows) (k : Int) (e : Ev) : Rows × Int × Int := cond (!(DY r L == 0) || iLt k 0 || iLe (L.length : Int) k) ([], -1, 1) (qb r (edL L k e))
theorem Sb {N : Nat} {r1 r2 r3 r4 r5 r6 r7 r9 r10 r11 r12 : Int} {r8 : Bool} {r0 : ByteArray} {r13 : Rows} {L : Rows} {k : Int} {e0 e1 e2 e3 e5 e6 e7 e8 e9 e10 e11 e13 e14 e15 e16 e18 : Int} {e4 e12 e17 : Bool} (hN : 2097152 < N) (hs : r0.size ≤ 1048576) (h13 : r13.length ≤ 1048576) (hL : L.length ≤ 1000000) : CV N [.str r0, .int r1, .int r2, .int r3, .int r4, .int r5, .int r6, .int r7, .bool r8, .int r9, .int r10, .int r11, .int r12, .rows r13, .rows L, .int k, .int e0, .int e1, .int e2, .int e3, .bool e4, .int e5, .int e6, .int e7, .int e8, .int e9, .int e10, .int e11, .bool e12, .int e13, .int e14, .int e15, .int e16, .bool e17, .int e18] = some (WJ (edS (⟨r0, r1, r2, r3, r4, r5, r6, r7, r8, r9, r10, r11, r12, r13⟩ : Rul) L k (⟨e0, e1, e2, e3, e4, e5, e6, ⟨e7, e8, e9, e10, e11, e12, e13, e14, e15, e16, e17, e18⟩⟩ : Ev))) := by
 show EP (std (Bc N) N) (xOf _) = _
 generalize hres : (some (WJ (edS (⟨r0, r1, r2, r3, r4, r5, r6, r7, r8, r9, r10, r11, r12, r13⟩ : Rul) L k (⟨e0, e1, e2, e3, e4, e5, e6, ⟨e7, e8, e9, e10, e11, e12, e13, e14, e15, e16, e17, e18⟩⟩ : Ev))) : Option (List PV)) = RR
 simp only [EP, Rl, KR, Lm, std, xOf, PXb, XW hN hs h13 (show L.length ≤ 1048576 by omega), Ef, BO (show L.length ≤ 1048576 by omega) (show 136 ≤ 4096 by omega), PXc]
 subst hres
 unfold edS
 cases hx : !DY (⟨r0, r1, r2, r3, r4, r5, r6, r7, r8, r9, r10, r11, r12, r13⟩ : Rul) L == 0 || iLt k 0 || iLe (L.length : Int) k
 case true => rfl
 have hi : iIn k (L.length : Int) = true := by
  simp only [Bool.or_eq_false_iff, iLt, iLe, decide_eq_false_iff_not] at hx
  simp only [iIn, decide_eq_true_eq, Bool.and_eq_true]
  omega
 simp only [hi, PXb]
 have : DH N [.str r0, .int r1, .int r2, .int r3, .int r4, .int r5, .int r6, .int r7, .bool r8, .int r9, .int r10, .int r11, .int r12, .rows r13, .rows (edL L k (⟨e0, e1, e2, e3, e4, e5, e6, ⟨e7, e8, e9, e10, e11, e12, e13, e14, e15, e16, e17, e18⟩⟩ : Ev))] = some (WJ (qb (⟨r0, r1, r2, r3, r4, r5, r6, r7, r8, r9, r10, r11, r12, r13⟩ : Rul) (edL L k (⟨e0, e1, e2, e3, e4, e5, e6, ⟨e7, e8, e9, e10, e11, e12, e13, e14, e15, e16, e17, e18⟩⟩ : Ev)))) := fG hN hs h13 (by rw [qS]; omega)
 simp only [edL, pX, Del.ls, List.cons_append, List.nil_append] at this
 simp only [this]
 rfl
end Go.Px
end
