/- Part 13. -/
import Derived.Test.YtopmcbahdgfleaaGreatPart12
set_option linter.unusedVariables false
set_option linter.unusedSimpArgs false
section
namespace Go.Px
set_option maxRecDepth 100000
def lnx (xs : List Inn) : Nat := (IntKind.i64.wrap ((xs.length : Int) - 1)).toNat
def BT (m : Mat) : Inn := inn m.inns (lnx m.inns)
theorem MI {n : Nat} (h : ((n : Int) == 0) = false) (hl : n ≤ 1000000) : iIn (IntKind.i64.wrap ((n : Int) - 1)) (n : Int) = true := by
 rw [beq_eq_false_iff_ne] at h
 rw [FU (by omega) (by omega)]
 simp only [iIn, decide_eq_true_eq]; omega
theorem fC {xs : List Inn} (h : ((xs.length : Int) == 0) = false) (hl : xs.length ≤ 1000000) : lnx xs < xs.length := by
 rw [beq_eq_false_iff_ne] at h
 unfold lnx
 rw [FU (by omega) (by omega)]
 omega
def V4 (r : Rul) : Int := cond (r.overs == 0) 5 6
theorem JU {N : Nat} {r1 r2 r3 r4 r5 r6 r7 r9 r10 r11 r12 : Int} {r8 : Bool} {r0 : ByteArray} {r13 : Rows}  : Bc N [.str r0, .int r1, .int r2, .int r3, .int r4, .int r5, .int r6, .int r7, .bool r8, .int r9, .int r10, .int r11, .int r12, .rows r13] = some [.int (V4 (⟨r0, r1, r2, r3, r4, r5, r6, r7, r8, r9, r10, r11, r12, r13⟩ : Rul))] := by
 show FP (std (MZ N) N) (xOf _) = _
 simp only [FP, std, xOf, PXb, PXc, PXn, PXm, Nat.reduceAdd, Int.reduceBEq, V4]
theorem RY {N : Nat} {m1 m2 m3 m4 m5 m6 m7 m9 m10 m11 m12 m14 m15 m18 m19 m20 m21 m22 : Int} {m8 m16 : Bool} {m0 : ByteArray} {m13 : Rows} {m17 : List Inn} (h : ((m17.length : Int) == 0) = false) (hl : m17.length ≤ 1000000) : Cw N [.str m0, .int m1, .int m2, .int m3, .int m4, .int m5, .int m6, .int m7, .bool m8, .int m9, .int m10, .int m11, .int m12, .rows m13, .int m14, .int m15, .bool m16, .rows (AO m17), .int m18, .int m19, .int m20, .int m21, .int m22] = some (inn m17 (lnx m17)).ls := by
 show Nj (std (JY N) N) (xOf _) = _
 simp only [Nj, std, xOf, PXb, PXc, PXn, PXm, Nat.reduceAdd, Int.reduceBEq, PXi, MI h hl, lnx]
def kO (x : Int × Int × Int) : List PV := [.int x.1, .int x.2.1, .int x.2.2]
def Lu (m : Mat) : Int × Int × Int :=
  let n : Int := m.inns.length
  let most := IntKind.i64.wrap (2 * m.rules.innings)
  let x := BT m
  cond (!CV m || n == 0) (0, 0, 0) (cond (x.ending == 5) (V4 m.rules, 0, 0) (cond (x.ending == 0) (0, 0, 0)
    (cond (n == most && iLe x.target x.runs) (2, x.side, IntKind.i64.wrap (IntKind.i64.wrap (m.rules.side - 1) - x.wickets)) (cond (n == most && x.runs == IntKind.i64.wrap (x.target - 1)) (4, 0, 0)
      (cond (n == most) (1, Bb x.side, IntKind.i64.wrap (IntKind.i64.wrap (x.target - 1) - x.runs))
        (cond (n == 3 && iLt (A4 m x.side) (A4 m (Bb x.side))) (3, Bb x.side, IntKind.i64.wrap (A4 m (Bb x.side) - A4 m x.side)) (0, 0, 0)))))))
set_option maxHeartbeats 4000000 in
theorem fR {N : Nat} {m1 m2 m3 m4 m5 m6 m7 m9 m10 m11 m12 m14 m15 m18 m19 m20 m21 m22 : Int} {m8 m16 : Bool} {m0 : ByteArray} {m13 : Rows} {m17 : List Inn} (hf : C6 m17) (hN : 2097152 < N) (hl : m17.length ≤ 1000000) (hs : m0.size ≤ 1048576) : FM N [.str m0, .int m1, .int m2, .int m3, .int m4, .int m5, .int m6, .int m7, .bool m8, .int m9, .int m10, .int m11, .int m12, .rows m13, .int m14, .int m15, .bool m16, .rows (AO m17), .int m18, .int m19, .int m20, .int m21, .int m22] = some (kO (Lu (⟨⟨m0, m1, m2, m3, m4, m5, m6, m7, m8, m9, m10, m11, m12, m13⟩, m14, m15, m16, m17, m18, m19, m20, m21, m22⟩ : Mat))) := by
 show IY (std (Cy N) N) (xOf _) = _
 generalize hres : (some (kO (Lu (⟨⟨m0, m1, m2, m3, m4, m5, m6, m7, m8, m9, m10, m11, m12, m13⟩, m14, m15, m16, m17, m18, m19, m20, m21, m22⟩ : Mat))) : Option (List PV)) = RR
 simp only [IY, QR, QT, Ps, Ln, std, xOf, PXb, PXi, X7 hf hN hl hs, Hz, JU, Qc hN (show m17.length ≤ 1048576 by omega)]
 subst hres; simp only [Lu, BT, lnx]
 cases hv : CV (⟨⟨m0, m1, m2, m3, m4, m5, m6, m7, m8, m9, m10, m11, m12, m13⟩, m14, m15, m16, m17, m18, m19, m20, m21, m22⟩ : Mat)
 case false => rfl
 cases h0 : (m17.length : Int) == 0
 case true => rfl
 simp only [PXb, MI h0 hl]
 generalize inn m17 (IntKind.i64.wrap ((m17.length : Int) - 1)).toNat = x
 cases x.ending == 5
 case true => rfl
 cases x.ending == 0
 case true => rfl
 cases (m17.length : Int) == IntKind.i64.wrap (2 * m2) <;> cases iLe x.target x.runs <;> cases x.runs == IntKind.i64.wrap (x.target - 1) <;> try rfl
 all_goals (cases (m17.length : Int) == 3 <;> try rfl)
 all_goals (simp only [PXb]; cases iLt (A4 (⟨⟨m0, m1, m2, m3, m4, m5, m6, m7, m8, m9, m10, m11, m12, m13⟩, m14, m15, m16, m17, m18, m19, m20, m21, m22⟩ : Mat) x.side) (A4 (⟨⟨m0, m1, m2, m3, m4, m5, m6, m7, m8, m9, m10, m11, m12, m13⟩, m14, m15, m16, m17, m18, m19, m20, m21, m22⟩ : Mat) (Bb x.side)) <;> rfl)
set_option maxHeartbeats 4000000 in
theorem jf {N : Nat} {m1 m2 m3 m4 m5 m6 m7 m9 m10 m11 m12 m14 m15 m18 m19 m20 m21 m22 : Int} {m8 m16 : Bool} {m0 : ByteArray} {m13 : Rows} {m17 : List Inn} (hf : C6 m17) (hN : 2097152 < N) (hl : m17.length ≤ 1000000) (hs : m0.size ≤ 1048576) : Hn N [.str m0, .int m1, .int m2, .int m3, .int m4, .int m5, .int m6, .int m7, .bool m8, .int m9, .int m10, .int m11, .int m12, .rows m13, .int m14, .int m15, .bool m16, .rows (AO m17), .int m18, .int m19, .int m20, .int m21, .int m22] = some (kO (Lu (⟨⟨m0, m1, m2, m3, m4, m5, m6, m7, m8, m9, m10, m11, m12, m13⟩, m14, m15, m16, m17, m18, m19, m20, m21, m22⟩ : Mat))) := by
 show H6 (std (B0 N) N) (xOf _) = _
 generalize hres : (some (kO (Lu (⟨⟨m0, m1, m2, m3, m4, m5, m6, m7, m8, m9, m10, m11, m12, m13⟩, m14, m15, m16, m17, m18, m19, m20, m21, m22⟩ : Mat))) : Option (List PV)) = RR
 simp only [H6, Tb, Kl, KG, KF, std, xOf, PXb, PXi, U8 hf hN hl hs, F0, KQ hN (show m17.length ≤ 1048576 by omega)]
 subst hres; simp only [Lu, BT]
 cases hv : CV (⟨⟨m0, m1, m2, m3, m4, m5, m6, m7, m8, m9, m10, m11, m12, m13⟩, m14, m15, m16, m17, m18, m19, m20, m21, m22⟩ : Mat)
 case false => rfl
 cases h0 : (m17.length : Int) == 0
 case true => rfl
 simp only [PXb, PXm, Kl, RY h0 hl, KG, KF, F0, KQ hN (show m17.length ≤ 1048576 by omega)]
 generalize inn m17 (lnx m17) = x
 unfold V4
 cases x.ending == 5 <;> cases m3 == 0 <;> try rfl
 all_goals (cases x.ending == 0 <;> try rfl)
 all_goals (cases (m17.length : Int) == IntKind.i64.wrap (2 * m2) <;> cases iLe x.target x.runs <;> cases x.runs == IntKind.i64.wrap (x.target - 1) <;> try rfl)
 all_goals (cases (m17.length : Int) == 3 <;> try rfl)
 all_goals (simp only [PXb]; cases iLt (A4 (⟨⟨m0, m1, m2, m3, m4, m5, m6, m7, m8, m9, m10, m11, m12, m13⟩, m14, m15, m16, m17, m18, m19, m20, m21, m22⟩ : Mat) x.side) (A4 (⟨⟨m0, m1, m2, m3, m4, m5, m6, m7, m8, m9, m10, m11, m12, m13⟩, m14, m15, m16, m17, m18, m19, m20, m21, m22⟩ : Mat) (Bb x.side)) <;> rfl)
theorem mS : ∀ (n k : Nat) (f : Nat → Nat), (∀ i, i < k → 1 ≤ f i ∧ f i ≤ n) → (∀ i j, i < j → j < k → f i ≠ f j) → k ≤ n
 | 0, k, f, h, _ => by
  rcases Nat.eq_zero_or_pos k with e | e
  ·omega
  ·have := h 0 e; omega
 | n + 1, 0, f, _, _ => by omega
 | n + 1, k + 1, f, h, hi => by
  by_cases he : ∃ j, j < k + 1 ∧ f j = n + 1
  ·obtain ⟨j, hj, hfj⟩ := he
   have := mS n k (fun i => if i = j then f k else f i) (fun i hik => by
    show 1 ≤ (if i = j then f k else f i) ∧ (if i = j then f k else f i) ≤ n
    by_cases e : i = j
    ·rw [if_pos e]
     have h1 := h k (by omega)
     have : f k ≠ f j := fun e2 => hi j k (by omega) (by omega) e2.symm
     omega
    ·rw [if_neg e]
     have h1 := h i (by omega)
     have : f i ≠ f j := by
      rcases Nat.lt_or_gt_of_ne e with e2 | e2
      ·exact hi i j e2 hj
      ·exact fun e3 => hi j i e2 (by omega) e3.symm
     omega) (fun a b hab hb => by
    show (if a = j then f k else f a) ≠ (if b = j then f k else f b)
    by_cases e1 : a = j
    ·have e2 : b ≠ j := by omega
     rw [if_pos e1, if_neg e2]
     exact fun e3 => hi b k hb (by omega) e3.symm
    ·rw [if_neg e1]
     by_cases e2 : b = j
     ·rw [if_pos e2]; exact hi a k (by omega) (by omega)
     ·rw [if_neg e2]; exact hi a b hab (by omega))
   omega
  ·have := mS n (k + 1) f (fun i hik => by
    have h1 := h i hik
    have : f i ≠ n + 1 := fun e => he ⟨i, hik, e⟩
    omega) hi
   omega
theorem kr {L : Rows} {n : Int} (h : Fd L n = true) (hn : 0 ≤ n) : (L.length : Int) ≤ n := by
 unfold Fd at h
 rw [Bool.not_eq_true', Fp] at h
 have hb : ∀ i, i < L.length → 1 ≤ atI L i 0 ∧ atI L i 0 ≤ n := fun i hi => by
  have := h i (by omega) (by omega)
  unfold Jw at this
  rw [Bool.or_eq_false_iff, Bool.not_eq_false', bA] at this
  exact this.1
 have := mS n.toNat L.length (fun i => (atI L i 0).toNat) (fun i hi => by have := hb i hi; show 1 ≤ (atI L i 0).toNat ∧ (atI L i 0).toNat ≤ n.toNat; omega) (fun i j hij hj => by
  show (atI L i 0).toNat ≠ (atI L j 0).toNat
  have h1 := hb i (by omega)
  have h2 := hb j hj
  have h3 := h j (by omega) (by omega)
  unfold Jw at h3
  rw [Bool.or_eq_false_iff] at h3
  have h4 := Fp.1 h3.2 i (by omega) (by omega)
  rw [beq_eq_false_iff_ne] at h4
  omega)
 omega
theorem RQ {r : Rul} {s : Inn} (h : GK r s = true) : s.bowlers.length ≤ 11 ∧ s.before.length ≤ 11 ∧ s.Fit := by
 have ok := qp.1 h
 have hs := tM ok
 have h1 := kr ok.dw (by omega)
 have h2 := kr ok.df (by omega)
 have h3 := ok.lb
 have h4 := ok.ld
 have h5 := ok.lz
 exact ⟨by omega, by omega, by omega, by omega, by omega, by omega, by omega⟩
end Go.Px
end
section
namespace Go.Px
set_option maxRecDepth 100000
def XR (m : Mat) (e : Ev) : Mat × Int :=
  let sd := DV m (m.inns.length : Int)
  let b := Bj m.rules sd (Gk m sd) (cond (sd == 2) m.pen2 m.pen1)
  let t := Ce m.rules b.1 e
  cond (!(b.2 == 0)) (m, 1) (cond (!(t.2 == 0)) (m, t.2)
    ({ m with stage := 3, inns := m.inns ++ [t.1], pen1 := cond (sd == 1) 0 m.pen1, pen2 := cond (sd == 2) 0 m.pen2 }, 0))
def Rb (xs : List Inn) (sd : Int) : Nat → Option Nat
 | 0 => none
 | k + 1 => cond ((inn xs k).side == sd) (some k) (Rb xs sd k)
def Kf (m : Mat) (sd : Int) : Mat := match Rb m.inns sd m.inns.length with
 | some k => { m with inns := m.inns.set k (NE (inn m.inns k)) }
 | none => { m with pen1 := cond (sd == 1) (IntKind.i64.wrap (m.pen1 + 5)) m.pen1, pen2 := cond (sd == 2) (IntKind.i64.wrap (m.pen2 + 5)) m.pen2 }
def bB (m : Mat) (e : Ev) : Mat × Int :=
 let t := Ce m.rules (BT m) e
 cond (!(t.2 == 0)) (m, t.2) (cond (e.kind == 13 && !(e.side == t.1.side)) (Kf { m with inns := m.inns.set (lnx m.inns) t.1 } e.side) { m with inns := m.inns.set (lnx m.inns) t.1 }, 0)
def kL (m : Mat) : Mat := { m with inns := cond (m.stage == 3) (m.inns.set (lnx m.inns) { BT m with ending := 5 }) m.inns, stage := 5, win := V4 m.rules, wside := 0, margin := 0 }
def HT (m : Mat) (e : Ev) : Mat × Int :=
  cond (e.kind == 1) (cond (!(m.stage == 1)) (m, 1) ({ m with first := cond e.yes e.side (Bb e.side), stage := 2 }, 0))
    (cond (e.kind == 2) (cond (!(m.stage == 2)) (m, 1) (XR m e))
      (cond (e.kind == 12) (cond (!(m.stage == 4)) (m, 1) (cond (!(e.side == m.first)) (m, 2) ({ m with follow := e.yes, stage := 2 }, 0)))
        (cond (e.kind == 16) (kL m, 0) (cond (!(m.stage == 3)) (m, 1) (bB m e)))))
def Of (m : Mat) : Mat :=
  let n : Int := m.inns.length
  let sd := (BT m).side
  let o := Lu { m with stage := 5 }
  cond (n == IntKind.i64.wrap (2 * m.rules.innings) || (n == 3 && iLt (A4 m sd) (A4 m (Bb sd)))) { m with stage := 5, win := o.1, wside := o.2.1, margin := o.2.2 }
    (cond (n == 2 && iLt 0 m.rules.followon && iLe m.rules.followon (IntKind.i64.wrap (A4 m m.first - A4 m (Bb m.first)))) { m with stage := 4 } { m with stage := 2 })
def Me (m : Mat) : Mat := cond (m.stage == 3 && !((BT m).ending == 0)) (Of m) m
def Eu (m : Mat) (e : Ev) : Mat × Int :=
 cond (!CV m || !(evS e == 0)) (m, 1) (cond (m.stage == 5) (m, 26) (cond (!((HT m e).2 == 0)) (m, (HT m e).2) (Me (HT m e).1, 0)))
theorem bind_ok {X : Option (List PV)} {r : List PV} {k : List PV → Option (List PV)} {g : Option (List PV)} (h : X = some r) (hk : k r = g) : X.bind k = g := by rw [h]; exact hk
structure MatOk (m : Mat) : Prop where
 code : Az m.rules = 0
 len : m.inns.length ≤ 4
 innv : ∀ i, i < m.inns.length → GK m.rules (inn m.inns i) = true ∧ (inn m.inns i).side = DV m (i : Int)
 begun : (m.stage == 3) = true → ((m.inns.length : Int) == 0) = false
 toss : (m.stage == 2) = true → m.first = 1 ∨ m.first = 2
 room : (m.stage == 2) = true → (m.inns.length : Int) < 2 * m.rules.innings
 most : IntKind.i64.wrap (2 * m.rules.innings) = 2 * m.rules.innings ∧ (m.inns.length : Int) ≤ 2 * m.rules.innings
theorem aE {m : Mat} (h : CV m = true) : MatOk m := by
 unfold CV kG at h
 simp only [Bool.and_eq_true, Bool.not_eq_true'] at h
 obtain ⟨⟨h1, h2, h3, h4, h5, h6, h7, h8, h9, h10⟩, h11, h12⟩ := h
 have hc := beq_iff_eq.1 h1
 have rk := (J3 hc).innings
 have e2 : IntKind.i64.wrap (2 * m.rules.innings) = 2 * m.rules.innings := FU (by omega) (by omega)
 rw [e2] at h5 h8
 rw [Bool.or_eq_false_iff, Bool.or_eq_false_iff] at h5
 have hn := h5.2
 have hf1 := h5.1.1
 have hf2 := h5.1.2
 simp only [iLt, decide_eq_false_iff_not] at hn hf1 hf2
 refine ⟨hc, by omega, fun i hi => ?_, fun hs => ?_, fun hs => ?_, fun hs => ?_, e2, by omega⟩
 ·have := Fp.1 h11 i (by omega) (by omega)
  unfold JW at this
  rw [Bool.or_eq_false_iff, Bool.not_eq_false', Bool.not_eq_false', beq_iff_eq] at this
  exact this
 ·unfold V2 at h12
  rw [hs, Bool.and_eq_true] at h12
  have := h12.2
  simp only [iLt, Bool.not_true, Bool.false_or, decide_eq_true_eq] at this
  exact beq_false_of_ne (by omega)
 ·rw [beq_iff_eq.1 hs] at h6
  cases h0 : m.first == 0 with
  | true => rw [h0] at h6; simp at h6
  | false =>
   rw [beq_eq_false_iff_ne] at h0
   omega
 ·rw [hs, Bool.true_and, beq_eq_false_iff_ne] at h8
  omega
theorem mZ {m : Mat} (h : m.first = 1 ∨ m.first = 2) (i : Int) : DV m i = 1 ∨ DV m i = 2 := by
 unfold DV
 cases cond (m.follow && iLe 2 i) (i == 2) (i.tmod 2 == 1) with
 | false => exact h
 | true => rcases h with h | h <;> rw [h] <;> decide
theorem rR {m : Mat} (h : MatOk m) : C6 m.inns := fun i hi => (RQ (h.innv i hi).1).2.2
theorem Xa {F : (List Ah → Option (List PV)) → List PV → Option (List PV)} {len : Nat} (enc : Nat → List Ah) (ans : Nat → Option (List PV))
    (h0 : ∀ self, F self ((enc len).map Leaf.pv) = some [.int 1]) (h1 : ∀ i self, i < len → F self ((enc i).map Leaf.pv) = match ans i with | some r => some (.int 0 :: r) | none => self (enc (i + 1))) :
    ∀ (k i n : Nat), i + k = len → k < n → HG F n ((enc i).map Leaf.pv) = some (RJ (B4 ans k i))
  | 0, i, n, hk, hn => by
    obtain ⟨n, rfl⟩ : ∃ m, n = m + 1 := ⟨n - 1, by omega⟩
    obtain rfl : i = len := by omega
    exact h0 _
  | k + 1, i, n, hk, hn => by
    obtain ⟨n, rfl⟩ : ∃ m, n = m + 1 := ⟨n - 1, by omega⟩
    show F _ _ = _
    rw [h1 i _ (by omega)]
    simp only [B4]
    cases ans i with
    | some r => rfl
    | none => exact Xa enc ans h0 h1 k (i + 1) n (by omega) (by omega)
theorem iC (ys : List Inn) (sd : Int) (g : Nat → List PV) (n : Nat) : ∀ k, k ≤ n → B4 (fun j => cond ((inn ys (n - 1 - j)).side == sd) (some (g (n - 1 - j))) none) k (n - k) = (Rb ys sd k).map g
 | 0, _ => rfl
 | k + 1, h => by
  have ih := iC ys sd g n k (by omega)
  have e : n - 1 - (n - (k + 1)) = k := by omega
  have e2 : n - (k + 1) + 1 = n - k := by omega
  simp only [B4, Rb, e, e2, ih]
  cases (inn ys k).side == sd <;> rfl
theorem tc (xs : List Inn) (k : Nat) (s : Inn) (i : Nat) (hi : i < xs.length) : inn (xs.set k s) i = (if k = i then s else inn xs i) := by
 rw [Sx, Sx, List.getElem?_set]
 by_cases h : k = i
 ·subst h
  rw [if_pos rfl, if_pos rfl, if_pos hi]
 ·rw [if_neg h, if_neg h]
theorem S6 {xs : List Inn} {s : Inn} (k : Nat) (h : C6 xs) (hs : s.Fit) : C6 (xs.set k s) := fun i hi => by
 rw [List.length_set] at hi
 rw [tc xs k s i hi]
 by_cases e : k = i
 ·rw [if_pos e]; exact hs
 ·rw [if_neg e]; exact h i hi
theorem i4 {e : Ev} (h : (evS e == 0) = true) (hk : (e.kind == 13) = true) : e.side = 1 ∨ e.side = 2 := by
 have h0 := am h
 rw [beq_iff_eq] at hk
 unfold evS at h
 rw [h0] at h
 cases h1 : iL e with
 | true => rw [h1] at h; cases h
 | false =>
  cases h2 : Zs e with
  | true => rw [h1, h2] at h; cases h
  | false =>
   unfold Zs at h2
   rw [Bool.or_eq_false_iff] at h2
   have h3 := h2.1
   rw [hk, show uS 13 = true from rfl, Bool.and_true] at h3
   simp only [btw, iLe, Bool.not_eq_false', Bool.and_eq_true, decide_eq_true_eq] at h3
   omega
theorem ta (xs : List Inn) (s : Inn) (i : Nat) (hi : i < xs.length + 1) : inn (xs ++ [s]) i = (if i < xs.length then inn xs i else s) := by
 rw [Sx, Sx]
 by_cases h : i < xs.length
 ·rw [if_pos h, List.getElem?_append_left h]
 ·have : i = xs.length := by omega
  subst this
  rw [if_neg h, List.getElem?_append_right (Nat.le_refl _), Nat.sub_self]
  rfl
theorem sR {xs : List Inn} {s : Inn} (h : C6 xs) (hs : s.Fit) : C6 (xs ++ [s]) := fun i hi => by
 rw [List.length_append] at hi
 rw [ta xs s i hi]
 by_cases e : i < xs.length
 ·rw [if_pos e]; exact h i e
 ·rw [if_neg e]; exact hs
theorem hO (r : Rul) (a b c : Int) (e : Ev) : (Ce r (Bj r a b c).1 e).1.Fit := by
 obtain ⟨f, h1, h2⟩ := HP r a b c
 exact Ky (UM r _ e) f (by rw [h1, h2]; exact Nat.zero_le _)
structure ActOk (m : Mat) (x : Mat × Int) : Prop where
 rules : x.1.rules = m.rules
 fit : C6 x.1.inns
 len : x.1.inns.length ≤ 5
 some' : (x.2 == 0) = true → (x.1.stage == 3) = true → ((x.1.inns.length : Int) == 0) = false
theorem A_c {m : Mat} (b : Bool) (x y : Mat × Int) (hx : ActOk m x) (hy : ActOk m y) : ActOk m (cond b x y) := by cases b <;> assumption
theorem sn {m : Mat} (sd : Int) (hf : C6 m.inns) : (Kf m sd).rules = m.rules ∧ C6 (Kf m sd).inns ∧ (Kf m sd).inns.length = m.inns.length ∧ (Kf m sd).stage = m.stage := by
 unfold Kf
 cases h : Rb m.inns sd m.inns.length with
 | none => exact ⟨rfl, hf, rfl, rfl⟩
 | some k =>
  have hk : k < m.inns.length := by
   have : ∀ n, Rb m.inns sd n = some k → k < n := by
    intro n
    induction n with
    | zero => intro h; cases h
    | succ n ih =>
     intro h
     unfold Rb at h
     cases hq : (inn m.inns n).side == sd with
     | true => rw [hq] at h; cases h; omega
     | false => rw [hq] at h; have := ih h; omega
   exact this _ h
  exact ⟨rfl, S6 k hf (tj (hf k hk)), List.length_set, rfl⟩
theorem lH {m : Mat} (ok : MatOk m) (e : Ev) : ActOk m (HT m e) := by
 have hf := rR ok
 have hl := ok.len
 have self : ∀ n : Int, (n == 0) = false → ActOk m (m, n) := fun n hn => ⟨rfl, hf, by show m.inns.length ≤ 5; omega, fun h => by rw [hn] at h; cases h⟩
 unfold HT
 refine A_c _ _ _ (A_c _ _ _ (self 1 rfl) ⟨rfl, hf, by show m.inns.length ≤ 5; omega, fun _ h => by cases h⟩) (A_c _ _ _ ?_ (A_c _ _ _ ?_ (A_c _ _ _ ?_ ?_)))
 ·refine A_c _ _ _ (self 1 rfl) ?_
  unfold XR
  refine A_c _ _ _ (self 1 rfl) ?_
  cases hq : (Ce m.rules (Bj m.rules (DV m (m.inns.length : Int)) (Gk m (DV m (m.inns.length : Int))) (cond (DV m (m.inns.length : Int) == 2) m.pen2 m.pen1)).1 e).2 == 0 with
  | false =>
   simp only [Bool.not_false, cond_true]
   exact self _ hq
  | true =>
   simp only [Bool.not_true, cond_false]
   exact ⟨rfl, sR hf (hO _ _ _ _ e), by simp; omega, fun _ _ => by
    show ((((m.inns ++ [_]).length : Nat) : Int) == 0) = false
    rw [List.length_append]
    exact beq_false_of_ne (by simp; omega)⟩
 ·exact A_c _ _ _ (self 1 rfl) (A_c _ _ _ (self 2 rfl) ⟨rfl, hf, by show m.inns.length ≤ 5; omega, fun _ h => by cases h⟩)
 ·unfold kL
  cases h3 : m.stage == 3 with
  | false => exact ⟨rfl, hf, by show m.inns.length ≤ 5; omega, fun _ h => by cases h⟩
  | true =>
   have h0 := ok.begun h3
   have fl := hf (lnx m.inns) (fC h0 (by omega))
   exact ⟨rfl, S6 _ hf ⟨fl.bt, fl.bw, fl.bf, fl.bd, fl.sb⟩, by show (m.inns.set _ _).length ≤ 5; rw [List.length_set]; omega, fun _ h => by cases h⟩
 ·cases h3 : m.stage == 3 with
  | false => exact self 1 rfl
  | true =>
   have h0 := ok.begun h3
   have lv := RQ (ok.innv (lnx m.inns) (fC h0 (by omega))).1
   have h1 := lv.1
   have h2 := lv.2.1
   have ft := Ky (UM m.rules (BT m) e) lv.2.2 (show (inn m.inns (lnx m.inns)).before.length + (inn m.inns (lnx m.inns)).bowlers.length ≤ 1048575 by omega)
   simp only [Bool.not_true, cond_false, bB]
   cases hq : (Ce m.rules (BT m) e).2 == 0 with
   | false =>
    simp only [Bool.not_false, Bool.not_true, cond_true, cond_false]
    exact self _ hq
   | true =>
    have fs := S6 (lnx m.inns) hf ft
    have ln : (m.inns.set (lnx m.inns) (Ce m.rules (BT m) e).1).length = m.inns.length := List.length_set
    simp only [Bool.not_true, cond_false]
    cases (e.kind == 13 && !(e.side == (Ce m.rules (BT m) e).1.side)) with
    | false =>
     exact ⟨rfl, fs, by show (m.inns.set _ _).length ≤ 5; omega, fun _ _ => by
      show ((((m.inns.set _ _).length : Nat) : Int) == 0) = false
      rw [ln]; exact h0⟩
    | true =>
     obtain ⟨a1, a2, a3, a4⟩ := sn (m := { m with inns := m.inns.set (lnx m.inns) (Ce m.rules (BT m) e).1 }) e.side fs
     exact ⟨a1, a2, by show (Kf _ _).inns.length ≤ 5; rw [a3]; show (m.inns.set _ _).length ≤ 5; omega, fun _ _ => by
      show ((((Kf _ _).inns.length : Nat) : Int) == 0) = false
      rw [a3]
      show ((((m.inns.set _ _).length : Nat) : Int) == 0) = false
      rw [ln]; exact h0⟩
end Go.Px
end
section
namespace Go.Px
set_option maxRecDepth 100000
set_option maxHeartbeats 8000000 in
theorem lM {N : Nat} {m1 m2 m3 m4 m5 m6 m7 m9 m10 m11 m12 m14 m15 m18 m19 m20 m21 m22 : Int} {m8 m16 : Bool} {m0 : ByteArray} {m13 : Rows} {m17 : List Inn} {e0 e1 e2 e3 e5 e6 e7 e8 e9 e10 e11 e13 e14 e15 e16 e18 : Int} {e4 e12 e17 : Bool} (hN : 2097152 < N) (hf : C6 m17) (hl : m17.length ≤ 1000000) (hs : m0.size ≤ 1048576) (h13 : m13.length ≤ 1048576) : N2 N [.str m0, .int m1, .int m2, .int m3, .int m4, .int m5, .int m6, .int m7, .bool m8, .int m9, .int m10, .int m11, .int m12, .rows m13, .int m14, .int m15, .bool m16, .rows (AO m17), .int m18, .int m19, .int m20, .int m21, .int m22, .int e0, .int e1, .int e2, .int e3, .bool e4, .int e5, .int e6, .int e7, .int e8, .int e9, .int e10, .int e11, .bool e12, .int e13, .int e14, .int e15, .int e16, .bool e17, .int e18] = some (Eo (Eu (⟨⟨m0, m1, m2, m3, m4, m5, m6, m7, m8, m9, m10, m11, m12, m13⟩, m14, m15, m16, m17, m18, m19, m20, m21, m22⟩ : Mat) (⟨e0, e1, e2, e3, e4, e5, e6, ⟨e7, e8, e9, e10, e11, e12, e13, e14, e15, e16, e17, e18⟩⟩ : Ev))) := by
 show Mz (std (A0 N) N) (xOf _) = _
 generalize hres : (some (Eo (Eu (⟨⟨m0, m1, m2, m3, m4, m5, m6, m7, m8, m9, m10, m11, m12, m13⟩, m14, m15, m16, m17, m18, m19, m20, m21, m22⟩ : Mat) (⟨e0, e1, e2, e3, e4, e5, e6, ⟨e7, e8, e9, e10, e11, e12, e13, e14, e15, e16, e17, e18⟩⟩ : Ev))) : Option (List PV)) = RR
 simp only [Mz, Co, Ds, Gc, TH, TG, Sj, ET, Em, Jb, H2, D8, C5, std, xOf, PXb, X7 hf hN hl hs, Yg hN, kA hf hN hl h13]
 subst hres; simp only [Eu]
 cases hv : CV (⟨⟨m0, m1, m2, m3, m4, m5, m6, m7, m8, m9, m10, m11, m12, m13⟩, m14, m15, m16, m17, m18, m19, m20, m21, m22⟩ : Mat)
 case false => rfl
 cases he : evS (⟨e0, e1, e2, e3, e4, e5, e6, ⟨e7, e8, e9, e10, e11, e12, e13, e14, e15, e16, e17, e18⟩⟩ : Ev) == 0
 case false => simp only [PXb, he]; rfl
 simp only [PXb, he]
 cases h5 : m14 == 5
 case true => rfl
 simp only [PXb]
 have ok := aE hv
 refine bind_ok (r := .int (HT (⟨⟨m0, m1, m2, m3, m4, m5, m6, m7, m8, m9, m10, m11, m12, m13⟩, m14, m15, m16, m17, m18, m19, m20, m21, m22⟩ : Mat) (⟨e0, e1, e2, e3, e4, e5, e6, ⟨e7, e8, e9, e10, e11, e12, e13, e14, e15, e16, e17, e18⟩⟩ : Ev)).2 :: (HT (⟨⟨m0, m1, m2, m3, m4, m5, m6, m7, m8, m9, m10, m11, m12, m13⟩, m14, m15, m16, m17, m18, m19, m20, m21, m22⟩ : Mat) (⟨e0, e1, e2, e3, e4, e5, e6, ⟨e7, e8, e9, e10, e11, e12, e13, e14, e15, e16, e17, e18⟩⟩ : Ev)).1.ls) ?_ ?_
 ·unfold HT
  cases hk1 : e0 == 1
  case true =>
   simp only [PXb, Em, Hz]
   cases m14 == 1 <;> cases e4 <;> rfl
  cases hk2 : e0 == 2
  case true =>
   simp only [PXb]
   cases hs2 : m14 == 2
   case false => rfl
   have hl2 : m17.length ≤ 1048576 := by omega
   have h304 : iSm ((m17.length + 1 : Nat) : Int) 304 = true := Hd (by omega) (by omega)
   have fb := fun a b c => (HP (⟨⟨m0, m1, m2, m3, m4, m5, m6, m7, m8, m9, m10, m11, m12, m13⟩, m14, m15, m16, m17, m18, m19, m20, m21, m22⟩ : Mat).rules a b c).1
   have wb : ∀ a b c, (Bj (⟨⟨m0, m1, m2, m3, m4, m5, m6, m7, m8, m9, m10, m11, m12, m13⟩, m14, m15, m16, m17, m18, m19, m20, m21, m22⟩ : Mat).rules a b c).1.before.length + (Bj (⟨⟨m0, m1, m2, m3, m4, m5, m6, m7, m8, m9, m10, m11, m12, m13⟩, m14, m15, m16, m17, m18, m19, m20, m21, m22⟩ : Mat).rules a b c).1.bowlers.length ≤ 1000000 := fun a b c => by
    rw [(HP (⟨⟨m0, m1, m2, m3, m4, m5, m6, m7, m8, m9, m10, m11, m12, m13⟩, m14, m15, m16, m17, m18, m19, m20, m21, m22⟩ : Mat).rules a b c).2.1, (HP (⟨⟨m0, m1, m2, m3, m4, m5, m6, m7, m8, m9, m10, m11, m12, m13⟩, m14, m15, m16, m17, m18, m19, m20, m21, m22⟩ : Mat).rules a b c).2.2]
    exact Nat.zero_le _
   rcases mZ (m := (⟨⟨m0, m1, m2, m3, m4, m5, m6, m7, m8, m9, m10, m11, m12, m13⟩, m14, m15, m16, m17, m18, m19, m20, m21, m22⟩ : Mat)) (ok.toss hs2) (m17.length : Int) with ho | ho
   ·simp only [PXb, PXc, CL, TL, Nat.reduceAdd, Int.reduceBEq, PXi, PXr, Inn.eta, AW, List.length_append, List.length_cons, List.length_nil, h304, XR, ET, D8, Ds, Co, Qq, V0 hN hl2, To hN hs, Od (fb _ _ _) (wb _ _ _) hN hs h13, ho, wr1, wr2, VS, U9]
    cases (Bj (⟨⟨m0, m1, m2, m3, m4, m5, m6, m7, m8, m9, m10, m11, m12, m13⟩, m14, m15, m16, m17, m18, m19, m20, m21, m22⟩ : Mat).rules 1 (Gk (⟨⟨m0, m1, m2, m3, m4, m5, m6, m7, m8, m9, m10, m11, m12, m13⟩, m14, m15, m16, m17, m18, m19, m20, m21, m22⟩ : Mat) 1) m18).2 == 0 <;> try rfl
    cases (Ce (⟨⟨m0, m1, m2, m3, m4, m5, m6, m7, m8, m9, m10, m11, m12, m13⟩, m14, m15, m16, m17, m18, m19, m20, m21, m22⟩ : Mat).rules (Bj (⟨⟨m0, m1, m2, m3, m4, m5, m6, m7, m8, m9, m10, m11, m12, m13⟩, m14, m15, m16, m17, m18, m19, m20, m21, m22⟩ : Mat).rules 1 (Gk (⟨⟨m0, m1, m2, m3, m4, m5, m6, m7, m8, m9, m10, m11, m12, m13⟩, m14, m15, m16, m17, m18, m19, m20, m21, m22⟩ : Mat) 1) m18).1 (⟨e0, e1, e2, e3, e4, e5, e6, ⟨e7, e8, e9, e10, e11, e12, e13, e14, e15, e16, e17, e18⟩⟩ : Ev)).2 == 0 <;> rfl
   ·simp only [PXb, PXc, CL, TL, Nat.reduceAdd, Int.reduceBEq, PXi, PXr, Inn.eta, AW, List.length_append, List.length_cons, List.length_nil, h304, XR, ET, D8, Ds, Co, Qq, V0 hN hl2, To hN hs, Od (fb _ _ _) (wb _ _ _) hN hs h13, ho, wr1, wr2, VS, U9]
    cases (Bj (⟨⟨m0, m1, m2, m3, m4, m5, m6, m7, m8, m9, m10, m11, m12, m13⟩, m14, m15, m16, m17, m18, m19, m20, m21, m22⟩ : Mat).rules 2 (Gk (⟨⟨m0, m1, m2, m3, m4, m5, m6, m7, m8, m9, m10, m11, m12, m13⟩, m14, m15, m16, m17, m18, m19, m20, m21, m22⟩ : Mat) 2) m19).2 == 0 <;> try rfl
    cases (Ce (⟨⟨m0, m1, m2, m3, m4, m5, m6, m7, m8, m9, m10, m11, m12, m13⟩, m14, m15, m16, m17, m18, m19, m20, m21, m22⟩ : Mat).rules (Bj (⟨⟨m0, m1, m2, m3, m4, m5, m6, m7, m8, m9, m10, m11, m12, m13⟩, m14, m15, m16, m17, m18, m19, m20, m21, m22⟩ : Mat).rules 2 (Gk (⟨⟨m0, m1, m2, m3, m4, m5, m6, m7, m8, m9, m10, m11, m12, m13⟩, m14, m15, m16, m17, m18, m19, m20, m21, m22⟩ : Mat) 2) m19).1 (⟨e0, e1, e2, e3, e4, e5, e6, ⟨e7, e8, e9, e10, e11, e12, e13, e14, e15, e16, e17, e18⟩⟩ : Ev)).2 == 0 <;> rfl
  cases hk3 : e0 == 12
  case true =>
   simp only [PXb]
   cases m14 == 4 <;> cases e1 == m15 <;> rfl
  cases hk4 : e0 == 16
  case true =>
   simp only [PXb, kL]
   cases h3 : m14 == 3
   case false => simp only [PXb, PXc, PXi, PXr, CL, Nat.reduceAdd, C5, JU]; rfl
   simp only [PXb, PXc, PXi, PXr, CL, Nat.reduceAdd, MI (ok.begun h3) hl, C5, JU]
   rfl
  simp only [PXb]
  cases h3 : m14 == 3
  case false => rfl
  have h0 := ok.begun h3
  have lv := RQ (ok.innv (lnx m17) (fC h0 hl)).1
  have fl : (inn m17 (IntKind.i64.wrap ((m17.length : Int) - 1)).toNat).Fit := lv.2.2
  have wl : (inn m17 (IntKind.i64.wrap ((m17.length : Int) - 1)).toNat).before.length + (inn m17 (IntKind.i64.wrap ((m17.length : Int) - 1)).toNat).bowlers.length ≤ 1000000 := by
   have h1 := lv.1
   have h2 := lv.2.1
   change (inn m17 (IntKind.i64.wrap ((m17.length : Int) - 1)).toNat).bowlers.length ≤ 11 at h1
   change (inn m17 (IntKind.i64.wrap ((m17.length : Int) - 1)).toNat).before.length ≤ 11 at h2
   omega
  have f1 := Ky (UM (⟨⟨m0, m1, m2, m3, m4, m5, m6, m7, m8, m9, m10, m11, m12, m13⟩, m14, m15, m16, m17, m18, m19, m20, m21, m22⟩ : Mat).rules (inn m17 (IntKind.i64.wrap ((m17.length : Int) - 1)).toNat) (⟨e0, e1, e2, e3, e4, e5, e6, ⟨e7, e8, e9, e10, e11, e12, e13, e14, e15, e16, e17, e18⟩⟩ : Ev)) fl (by omega)
  simp only [PXb, PXc, PXi, PXr, AW, Inn.eta, CL, Nat.reduceAdd, List.length_set, MI h0 hl, Co, Od fl wl hN hs h13, bB, BT, lnx]
  generalize hX : Ce (⟨⟨m0, m1, m2, m3, m4, m5, m6, m7, m8, m9, m10, m11, m12, m13⟩, m14, m15, m16, m17, m18, m19, m20, m21, m22⟩ : Mat).rules (inn m17 (IntKind.i64.wrap ((m17.length : Int) - 1)).toNat) (⟨e0, e1, e2, e3, e4, e5, e6, ⟨e7, e8, e9, e10, e11, e12, e13, e14, e15, e16, e17, e18⟩⟩ : Ev) = X at f1
  have fy := S6 (IntKind.i64.wrap ((m17.length : Int) - 1)).toNat hf f1
  generalize hy : m17.set (IntKind.i64.wrap ((m17.length : Int) - 1)).toNat X.1 = ys at fy
  have ly : ys.length = m17.length := by rw [← hy, List.length_set]
  cases X.2 == 0 <;> try rfl
  cases h13k : e0 == 13
  case false => rfl
  cases hsd : e1 == X.1.side
  case true => rfl
  simp only [PXb, Option.bind_assoc]
  have e0w : IntKind.i64.wrap ((m17.length : Int) - 1) = (m17.length : Int) - 1 - ((0 : Nat) : Int) := by
   rw [beq_eq_false_iff_ne] at h0
   rw [FU (by omega) (by omega)]; omega
  rw [e0w]
  have hside := i4 (e := (⟨e0, e1, e2, e3, e4, e5, e6, ⟨e7, e8, e9, e10, e11, e12, e13, e14, e15, e16, e17, e18⟩⟩ : Ev)) he h13k
  simp only at hside
  refine AN (Xa (len := m17.length) (fun j => [.int ((m17.length : Int) - 1 - (j : Int))]) (fun j => cond ((inn ys (m17.length - 1 - j)).side == e1) (some [PV.str m0, PV.int m1, PV.int m2, PV.int m3, PV.int m4, PV.int m5, PV.int m6, PV.int m7, PV.bool m8, PV.int m9, PV.int m10, PV.int m11, PV.int m12, PV.rows m13, PV.int m14, PV.int m15, PV.bool m16, PV.rows (AO (ys.set (m17.length - 1 - j) (NE (inn ys (m17.length - 1 - j))))), PV.int m18, PV.int m19, PV.int m20, PV.int m21, PV.int m22]) none) ?_ ?_ m17.length 0 N (by omega) (by omega)) ?_
  ·intro self
   have q1 : iLe 0 ((m17.length : Int) - 1 - (m17.length : Int)) = false := by simp only [iLe, decide_eq_false_iff_not]; omega
   simp only [PXb, q1]
  ·intro i self hi
   have q1 : iLe 0 ((m17.length : Int) - 1 - (i : Int)) = true := by simp only [iLe, decide_eq_true_eq]; omega
   have q2 : iIn ((m17.length : Int) - 1 - (i : Int)) (m17.length : Int) = true := by simp only [iIn, decide_eq_true_eq]; omega
   have q3 : ((m17.length : Int) - 1 - (i : Int)).toNat = m17.length - 1 - i := by omega
   have q4 : IntKind.i64.wrap ((m17.length : Int) - 1 - (i : Int) - 1) = (m17.length : Int) - 1 - ((i + 1 : Nat) : Int) := by rw [FU (by omega) (by omega)]; omega
   have q5 := fy (m17.length - 1 - i) (by omega)
   simp only [PXb, PXc, q1, q2, q3, q4, Gc, Q8 q5, PXm]
   cases (inn ys (m17.length - 1 - i)).side == e1 <;> rfl
  ·have hfa := iC ys e1 (fun k => [PV.str m0, PV.int m1, PV.int m2, PV.int m3, PV.int m4, PV.int m5, PV.int m6, PV.int m7, PV.bool m8, PV.int m9, PV.int m10, PV.int m11, PV.int m12, PV.rows m13, PV.int m14, PV.int m15, PV.bool m16, PV.rows (AO (ys.set k (NE (inn ys k)))), PV.int m18, PV.int m19, PV.int m20, PV.int m21, PV.int m22]) m17.length m17.length (Nat.le_refl _)
   rw [Nat.sub_self] at hfa
   rw [hfa]
   unfold Kf
   simp only [ly]
   cases Rb ys e1 m17.length with
   | some k => rfl
   | none =>
    rcases hside with h | h <;> subst h
    ·simp only [Option.map_none, RJ, PXb, PXc, CL, Int.reduceBEq, wr1, VS]
     rfl
    ·simp only [Option.map_none, RJ, PXb, PXc, CL, Int.reduceBEq, wr2, U9]
     rfl
 ·have ak := lH ok (⟨e0, e1, e2, e3, e4, e5, e6, ⟨e7, e8, e9, e10, e11, e12, e13, e14, e15, e16, e17, e18⟩⟩ : Ev)
  generalize HT (⟨⟨m0, m1, m2, m3, m4, m5, m6, m7, m8, m9, m10, m11, m12, m13⟩, m14, m15, m16, m17, m18, m19, m20, m21, m22⟩ : Mat) (⟨e0, e1, e2, e3, e4, e5, e6, ⟨e7, e8, e9, e10, e11, e12, e13, e14, e15, e16, e17, e18⟩⟩ : Ev) = A at ak
  obtain ⟨⟨⟨a0, a1, a2, a3, a4, a5, a6, a7, a8, a9, a10, a11, a12, a13⟩, a14, a15, a16, a17, a18, a19, a20, a21, a22⟩, l⟩ := A
  obtain ⟨k1, k2, k3, k4⟩ := ak
  simp only at k1 k2 k3 k4
  have hl5 : a17.length ≤ 1048576 := by omega
  have hs5 : a0.size ≤ 1048576 := by
   have := congrArg Rul.name k1
   simp only at this
   rw [this]; exact hs
  simp only [PXb, PXc, PXk, PXi, CL, Nat.reduceAdd]
  cases hl0 : l == 0
  case false => rfl
  simp only [PXb, Me]
  cases h3 : a14 == 3
  case false => rfl
  have h0 := k4 hl0 h3
  have li := MI h0 (show a17.length ≤ 1000000 by omega)
  simp only [PXb, PXc, PXi, li]
  cases he2 : (inn a17 (IntKind.i64.wrap ((a17.length : Int) - 1)).toNat).ending == 0
  case true => simp only [PXb, BT, lnx, he2]
  simp only [PXb, PXc, PXi, BT, lnx, he2, Jb, Em, H2, Qc hN hl5, Hz, fR k2 hN (show a17.length ≤ 1000000 by omega) hs5]
  unfold Of
  simp only [BT, lnx]
  simp only [A4, BT, lnx]
  cases hq1 : ((a17.length : Int) == IntKind.i64.wrap (2 * a2))
  case true => rfl
  cases hq2 : ((a17.length : Int) == 3)
  case true =>
   simp only [PXb]
   cases iLt (Fv a17 (inn a17 (IntKind.i64.wrap ((a17.length : Int) - 1)).toNat).side a17.length) (Fv a17 (Bb (inn a17 (IntKind.i64.wrap ((a17.length : Int) - 1)).toNat).side) a17.length)
   case true => rfl
   simp only [PXb]
   cases ((a17.length : Int) == 2) && iLt 0 a10 && iLe a10 (IntKind.i64.wrap (Fv a17 a15 a17.length - Fv a17 (Bb a15) a17.length)) <;> rfl
  simp only [PXb]
  cases ((a17.length : Int) == 2) && iLt 0 a10 && iLe a10 (IntKind.i64.wrap (Fv a17 a15 a17.length - Fv a17 (Bb a15) a17.length)) <;> rfl
end Go.Px
end
section
namespace Go.Px
set_option maxRecDepth 100000
def TF (m : Mat) : Int := cond (!CV m) 0 (cond (m.stage == 3) (BT m).side (cond (m.stage == 2) (DV m (m.inns.length : Int)) 0))
theorem jo {N : Nat} {m1 m2 m3 m4 m5 m6 m7 m9 m10 m11 m12 m14 m15 m18 m19 m20 m21 m22 : Int} {m8 m16 : Bool} {m0 : ByteArray} {m13 : Rows} {m17 : List Inn} (hf : C6 m17) (hN : 2097152 < N) (hl : m17.length ≤ 1000000) (hs : m0.size ≤ 1048576) : Hm N [.str m0, .int m1, .int m2, .int m3, .int m4, .int m5, .int m6, .int m7, .bool m8, .int m9, .int m10, .int m11, .int m12, .rows m13, .int m14, .int m15, .bool m16, .rows (AO m17), .int m18, .int m19, .int m20, .int m21, .int m22] = some [.int (TF (⟨⟨m0, m1, m2, m3, m4, m5, m6, m7, m8, m9, m10, m11, m12, m13⟩, m14, m15, m16, m17, m18, m19, m20, m21, m22⟩ : Mat))] := by
 show Hj (std (CR N) N) (xOf _) = _
 generalize hres : (some [.int (TF (⟨⟨m0, m1, m2, m3, m4, m5, m6, m7, m8, m9, m10, m11, m12, m13⟩, m14, m15, m16, m17, m18, m19, m20, m21, m22⟩ : Mat))] : Option (List PV)) = RR
 simp only [Hj, Te, Kp, Jd, std, xOf, PXb, U8 hf hN hl hs]
 subst hres; simp only [TF]
 cases hv : CV (⟨⟨m0, m1, m2, m3, m4, m5, m6, m7, m8, m9, m10, m11, m12, m13⟩, m14, m15, m16, m17, m18, m19, m20, m21, m22⟩ : Mat)
 case false => rfl
 have ok := aE hv
 simp only [PXb]
 cases h3 : m14 == 3
 case true => simp only [PXb, PXi, Kp, RY (ok.begun h3) hl, BT, PXm]
 cases h2 : m14 == 2
 case false => rfl
 have hr := ok.room h2
 have rk := (J3 ok.code).innings
 simp only at hr rk
 have hi3 : 0 ≤ (m17.length : Int) ∧ (m17.length : Int) ≤ 3 := by omega
 simp only [PXb, PXi, Jd, Y1 hi3]
theorem qL {m : Mat} (ok : MatOk m) (h2 : (m.stage == 2) = true) (sd : Int) : Gk m sd = cond (IntKind.i64.wrap ((m.inns.length : Int) + 1) == IntKind.i64.wrap (2 * m.rules.innings)) (IntKind.i64.wrap (IntKind.i64.wrap (A4 m (Bb sd) - A4 m sd) + 1)) 0 := by
 have hr := ok.room h2
 have hm := ok.most.1
 have hl := ok.len
 unfold Gk
 rw [hm, FU (by omega) (by omega)]
 cases hq : ((m.inns.length : Int) + 1 == 2 * m.rules.innings) with
 | true =>
  rw [beq_iff_eq] at hq
  rw [show iLt ((m.inns.length : Int) + 1) (2 * m.rules.innings) = false by simp only [iLt, decide_eq_false_iff_not]; omega]
  rfl
 | false =>
  rw [beq_eq_false_iff_ne] at hq
  rw [show iLt ((m.inns.length : Int) + 1) (2 * m.rules.innings) = true by simp only [iLt, decide_eq_true_eq]; omega]
  rfl
set_option maxHeartbeats 4000000 in
theorem pd {N : Nat} {m1 m2 m3 m4 m5 m6 m7 m9 m10 m11 m12 m14 m15 m18 m19 m20 m21 m22 : Int} {m8 m16 : Bool} {m0 : ByteArray} {m13 : Rows} {m17 : List Inn} {e0 e1 e2 e3 e5 e6 e7 e8 e9 e10 e11 e13 e14 e15 e16 e18 : Int} {e4 e12 e17 : Bool} (hN : 2097152 < N) (hf : C6 m17) (hl : m17.length ≤ 1000000) (hs : m0.size ≤ 1048576) (h13 : m13.length ≤ 1048576) (ok : MatOk (⟨⟨m0, m1, m2, m3, m4, m5, m6, m7, m8, m9, m10, m11, m12, m13⟩, m14, m15, m16, m17, m18, m19, m20, m21, m22⟩ : Mat)) (hv : CV (⟨⟨m0, m1, m2, m3, m4, m5, m6, m7, m8, m9, m10, m11, m12, m13⟩, m14, m15, m16, m17, m18, m19, m20, m21, m22⟩ : Mat) = true) (hs2 : (m14 == 2) = true) : N4 N [.str m0, .int m1, .int m2, .int m3, .int m4, .int m5, .int m6, .int m7, .bool m8, .int m9, .int m10, .int m11, .int m12, .rows m13, .int m14, .int m15, .bool m16, .rows (AO m17), .int m18, .int m19, .int m20, .int m21, .int m22, .int e0, .int e1, .int e2, .int e3, .bool e4, .int e5, .int e6, .int e7, .int e8, .int e9, .int e10, .int e11, .bool e12, .int e13, .int e14, .int e15, .int e16, .bool e17, .int e18] = some (Eo (XR (⟨⟨m0, m1, m2, m3, m4, m5, m6, m7, m8, m9, m10, m11, m12, m13⟩, m14, m15, m16, m17, m18, m19, m20, m21, m22⟩ : Mat) (⟨e0, e1, e2, e3, e4, e5, e6, ⟨e7, e8, e9, e10, e11, e12, e13, e14, e15, e16, e17, e18⟩⟩ : Ev))) := by
 show NB (std (CY N) N) (xOf _) = _
 have hl2 : m17.length ≤ 1048576 := by omega
 have h304 : iSm ((m17.length + 1 : Nat) : Int) 304 = true := Hd (by omega) (by omega)
 have fb := fun a b c => (HP (⟨⟨m0, m1, m2, m3, m4, m5, m6, m7, m8, m9, m10, m11, m12, m13⟩, m14, m15, m16, m17, m18, m19, m20, m21, m22⟩ : Mat).rules a b c).1
 have wb : ∀ a b c, (Bj (⟨⟨m0, m1, m2, m3, m4, m5, m6, m7, m8, m9, m10, m11, m12, m13⟩, m14, m15, m16, m17, m18, m19, m20, m21, m22⟩ : Mat).rules a b c).1.before.length + (Bj (⟨⟨m0, m1, m2, m3, m4, m5, m6, m7, m8, m9, m10, m11, m12, m13⟩, m14, m15, m16, m17, m18, m19, m20, m21, m22⟩ : Mat).rules a b c).1.bowlers.length ≤ 1000000 := fun a b c => by
  rw [(HP (⟨⟨m0, m1, m2, m3, m4, m5, m6, m7, m8, m9, m10, m11, m12, m13⟩, m14, m15, m16, m17, m18, m19, m20, m21, m22⟩ : Mat).rules a b c).2.1, (HP (⟨⟨m0, m1, m2, m3, m4, m5, m6, m7, m8, m9, m10, m11, m12, m13⟩, m14, m15, m16, m17, m18, m19, m20, m21, m22⟩ : Mat).rules a b c).2.2]
  exact Nat.zero_le _
 have hb : TF (⟨⟨m0, m1, m2, m3, m4, m5, m6, m7, m8, m9, m10, m11, m12, m13⟩, m14, m15, m16, m17, m18, m19, m20, m21, m22⟩ : Mat) = DV (⟨⟨m0, m1, m2, m3, m4, m5, m6, m7, m8, m9, m10, m11, m12, m13⟩, m14, m15, m16, m17, m18, m19, m20, m21, m22⟩ : Mat) (m17.length : Int) := by
  unfold TF
  rw [hv]
  have h3 : (m14 == 3) = false := by
   rw [beq_iff_eq] at hs2
   rw [hs2]; rfl
  simp only [PXb, h3, hs2]
 have ht := fun sd => qL ok hs2 sd
 simp only at ht
 simp only [NB, IP, HW, Hf, Hg, Uw, std, xOf, PXb, jo hf hN hl hs, hb]
 rcases mZ (m := (⟨⟨m0, m1, m2, m3, m4, m5, m6, m7, m8, m9, m10, m11, m12, m13⟩, m14, m15, m16, m17, m18, m19, m20, m21, m22⟩ : Mat)) (ok.toss hs2) (m17.length : Int) with ho | ho
 ·simp only [PXb, PXc, ho, wr1, wr2, VS, U9, CL, TL, Nat.reduceAdd, Int.reduceBEq, XR, ht, PXi, Hf, Hg, F0, KQ hN hl2]
  generalize hT : cond (IntKind.i64.wrap ((m17.length : Int) + 1) == IntKind.i64.wrap (2 * m2)) (IntKind.i64.wrap (IntKind.i64.wrap (A4 (⟨⟨m0, m1, m2, m3, m4, m5, m6, m7, m8, m9, m10, m11, m12, m13⟩, m14, m15, m16, m17, m18, m19, m20, m21, m22⟩ : Mat) (Bb 1) - A4 (⟨⟨m0, m1, m2, m3, m4, m5, m6, m7, m8, m9, m10, m11, m12, m13⟩, m14, m15, m16, m17, m18, m19, m20, m21, m22⟩ : Mat) 1) + 1)) 0 = T
  refine bind_ok (r := [.int T]) (by subst hT; cases IntKind.i64.wrap ((m17.length : Int) + 1) == IntKind.i64.wrap (2 * m2) <;> rfl) ?_
  simp only [PXb, PXc, PXi, PXr, Inn.eta, AW, List.length_append, List.length_cons, List.length_nil, h304, CL, TL, Nat.reduceAdd, Int.reduceBEq, HW, IP, ce hN hs, XH (fb _ _ _) (wb _ _ _) hN hs h13]
  cases (Bj (⟨⟨m0, m1, m2, m3, m4, m5, m6, m7, m8, m9, m10, m11, m12, m13⟩, m14, m15, m16, m17, m18, m19, m20, m21, m22⟩ : Mat).rules 1 T m18).2 == 0 <;> try rfl
  cases (Ce (⟨⟨m0, m1, m2, m3, m4, m5, m6, m7, m8, m9, m10, m11, m12, m13⟩, m14, m15, m16, m17, m18, m19, m20, m21, m22⟩ : Mat).rules (Bj (⟨⟨m0, m1, m2, m3, m4, m5, m6, m7, m8, m9, m10, m11, m12, m13⟩, m14, m15, m16, m17, m18, m19, m20, m21, m22⟩ : Mat).rules 1 T m18).1 (⟨e0, e1, e2, e3, e4, e5, e6, ⟨e7, e8, e9, e10, e11, e12, e13, e14, e15, e16, e17, e18⟩⟩ : Ev)).2 == 0 <;> rfl
 ·simp only [PXb, PXc, ho, wr1, wr2, VS, U9, CL, TL, Nat.reduceAdd, Int.reduceBEq, XR, ht, PXi, Hf, Hg, F0, KQ hN hl2]
  generalize hT : cond (IntKind.i64.wrap ((m17.length : Int) + 1) == IntKind.i64.wrap (2 * m2)) (IntKind.i64.wrap (IntKind.i64.wrap (A4 (⟨⟨m0, m1, m2, m3, m4, m5, m6, m7, m8, m9, m10, m11, m12, m13⟩, m14, m15, m16, m17, m18, m19, m20, m21, m22⟩ : Mat) (Bb 2) - A4 (⟨⟨m0, m1, m2, m3, m4, m5, m6, m7, m8, m9, m10, m11, m12, m13⟩, m14, m15, m16, m17, m18, m19, m20, m21, m22⟩ : Mat) 2) + 1)) 0 = T
  refine bind_ok (r := [.int T]) (by subst hT; cases IntKind.i64.wrap ((m17.length : Int) + 1) == IntKind.i64.wrap (2 * m2) <;> rfl) ?_
  simp only [PXb, PXc, PXi, PXr, Inn.eta, AW, List.length_append, List.length_cons, List.length_nil, h304, CL, TL, Nat.reduceAdd, Int.reduceBEq, HW, IP, ce hN hs, XH (fb _ _ _) (wb _ _ _) hN hs h13]
  cases (Bj (⟨⟨m0, m1, m2, m3, m4, m5, m6, m7, m8, m9, m10, m11, m12, m13⟩, m14, m15, m16, m17, m18, m19, m20, m21, m22⟩ : Mat).rules 2 T m19).2 == 0 <;> try rfl
  cases (Ce (⟨⟨m0, m1, m2, m3, m4, m5, m6, m7, m8, m9, m10, m11, m12, m13⟩, m14, m15, m16, m17, m18, m19, m20, m21, m22⟩ : Mat).rules (Bj (⟨⟨m0, m1, m2, m3, m4, m5, m6, m7, m8, m9, m10, m11, m12, m13⟩, m14, m15, m16, m17, m18, m19, m20, m21, m22⟩ : Mat).rules 2 T m19).1 (⟨e0, e1, e2, e3, e4, e5, e6, ⟨e7, e8, e9, e10, e11, e12, e13, e14, e15, e16, e17, e18⟩⟩ : Ev)).2 == 0 <;> rfl
end Go.Px
end
section
namespace Go.Px
set_option maxRecDepth 100000
set_option maxHeartbeats 8000000 in
theorem pK {N : Nat} {m1 m2 m3 m4 m5 m6 m7 m9 m10 m11 m12 m14 m15 m18 m19 m20 m21 m22 : Int} {m8 m16 : Bool} {m0 : ByteArray} {m13 : Rows} {m17 : List Inn} {e0 e1 e2 e3 e5 e6 e7 e8 e9 e10 e11 e13 e14 e15 e16 e18 : Int} {e4 e12 e17 : Bool} (hN : 2097152 < N) (hf : C6 m17) (hl : m17.length ≤ 1000000) (hs : m0.size ≤ 1048576) (h13 : m13.length ≤ 1048576) (ok : MatOk (⟨⟨m0, m1, m2, m3, m4, m5, m6, m7, m8, m9, m10, m11, m12, m13⟩, m14, m15, m16, m17, m18, m19, m20, m21, m22⟩ : Mat)) (he : (evS (⟨e0, e1, e2, e3, e4, e5, e6, ⟨e7, e8, e9, e10, e11, e12, e13, e14, e15, e16, e17, e18⟩⟩ : Ev) == 0) = true) (h3 : (m14 == 3) = true) : MW N [.str m0, .int m1, .int m2, .int m3, .int m4, .int m5, .int m6, .int m7, .bool m8, .int m9, .int m10, .int m11, .int m12, .rows m13, .int m14, .int m15, .bool m16, .rows (AO m17), .int m18, .int m19, .int m20, .int m21, .int m22, .int e0, .int e1, .int e2, .int e3, .bool e4, .int e5, .int e6, .int e7, .int e8, .int e9, .int e10, .int e11, .bool e12, .int e13, .int e14, .int e15, .int e16, .bool e17, .int e18] = some (Eo (bB (⟨⟨m0, m1, m2, m3, m4, m5, m6, m7, m8, m9, m10, m11, m12, m13⟩, m14, m15, m16, m17, m18, m19, m20, m21, m22⟩ : Mat) (⟨e0, e1, e2, e3, e4, e5, e6, ⟨e7, e8, e9, e10, e11, e12, e13, e14, e15, e16, e17, e18⟩⟩ : Ev))) := by
 show N9 (std (Ec N) N) (xOf _) = _
 simp only [N9, OQ, Kq, std, xOf, PXb]
 have h0 := ok.begun h3
 have lv := RQ (ok.innv (lnx m17) (fC h0 hl)).1
 have fl : (inn m17 (IntKind.i64.wrap ((m17.length : Int) - 1)).toNat).Fit := lv.2.2
 have wl : (inn m17 (IntKind.i64.wrap ((m17.length : Int) - 1)).toNat).before.length + (inn m17 (IntKind.i64.wrap ((m17.length : Int) - 1)).toNat).bowlers.length ≤ 1000000 := by
  have h1 := lv.1
  have h2 := lv.2.1
  change (inn m17 (IntKind.i64.wrap ((m17.length : Int) - 1)).toNat).bowlers.length ≤ 11 at h1
  change (inn m17 (IntKind.i64.wrap ((m17.length : Int) - 1)).toNat).before.length ≤ 11 at h2
  omega
 have f1 := Ky (UM (⟨⟨m0, m1, m2, m3, m4, m5, m6, m7, m8, m9, m10, m11, m12, m13⟩, m14, m15, m16, m17, m18, m19, m20, m21, m22⟩ : Mat).rules (inn m17 (IntKind.i64.wrap ((m17.length : Int) - 1)).toNat) (⟨e0, e1, e2, e3, e4, e5, e6, ⟨e7, e8, e9, e10, e11, e12, e13, e14, e15, e16, e17, e18⟩⟩ : Ev)) fl (by omega)
 simp only [PXb, PXc, PXi, PXr, AW, Inn.eta, CL, Nat.reduceAdd, List.length_set, MI h0 hl, OQ, XH fl wl hN hs h13, bB, BT, lnx]
 generalize hX : Ce (⟨⟨m0, m1, m2, m3, m4, m5, m6, m7, m8, m9, m10, m11, m12, m13⟩, m14, m15, m16, m17, m18, m19, m20, m21, m22⟩ : Mat).rules (inn m17 (IntKind.i64.wrap ((m17.length : Int) - 1)).toNat) (⟨e0, e1, e2, e3, e4, e5, e6, ⟨e7, e8, e9, e10, e11, e12, e13, e14, e15, e16, e17, e18⟩⟩ : Ev) = X at f1
 have fy := S6 (IntKind.i64.wrap ((m17.length : Int) - 1)).toNat hf f1
 generalize hy : m17.set (IntKind.i64.wrap ((m17.length : Int) - 1)).toNat X.1 = ys at fy
 have ly : ys.length = m17.length := by rw [← hy, List.length_set]
 cases X.2 == 0 <;> try rfl
 cases h13k : e0 == 13
 case false => rfl
 cases hsd : e1 == X.1.side
 case true => rfl
 simp only [PXb, Option.bind_assoc]
 have e0w : IntKind.i64.wrap ((m17.length : Int) - 1) = (m17.length : Int) - 1 - ((0 : Nat) : Int) := by
  rw [beq_eq_false_iff_ne] at h0
  rw [FU (by omega) (by omega)]; omega
 rw [e0w]
 have hside := i4 (e := (⟨e0, e1, e2, e3, e4, e5, e6, ⟨e7, e8, e9, e10, e11, e12, e13, e14, e15, e16, e17, e18⟩⟩ : Ev)) he h13k
 simp only at hside
 refine AN (Xa (len := m17.length) (fun j => [.int ((m17.length : Int) - 1 - (j : Int))]) (fun j => cond ((inn ys (m17.length - 1 - j)).side == e1) (some [PV.int 0, PV.str m0, PV.int m1, PV.int m2, PV.int m3, PV.int m4, PV.int m5, PV.int m6, PV.int m7, PV.bool m8, PV.int m9, PV.int m10, PV.int m11, PV.int m12, PV.rows m13, PV.int m14, PV.int m15, PV.bool m16, PV.rows (AO (ys.set (m17.length - 1 - j) (NE (inn ys (m17.length - 1 - j))))), PV.int m18, PV.int m19, PV.int m20, PV.int m21, PV.int m22]) none) ?_ ?_ m17.length 0 N (by omega) (by omega)) ?_
 ·intro self
  have q1 : iLe 0 ((m17.length : Int) - 1 - (m17.length : Int)) = false := by simp only [iLe, decide_eq_false_iff_not]; omega
  simp only [PXb, q1]
 ·intro i self hi
  have q1 : iLe 0 ((m17.length : Int) - 1 - (i : Int)) = true := by simp only [iLe, decide_eq_true_eq]; omega
  have q2 : iIn ((m17.length : Int) - 1 - (i : Int)) (m17.length : Int) = true := by simp only [iIn, decide_eq_true_eq]; omega
  have q3 : ((m17.length : Int) - 1 - (i : Int)).toNat = m17.length - 1 - i := by omega
  have q4 : IntKind.i64.wrap ((m17.length : Int) - 1 - (i : Int) - 1) = (m17.length : Int) - 1 - ((i + 1 : Nat) : Int) := by rw [FU (by omega) (by omega)]; omega
  have q5 := fy (m17.length - 1 - i) (by omega)
  simp only [PXb, PXc, q1, q2, q3, q4, Kq, X8 q5, PXm]
  cases (inn ys (m17.length - 1 - i)).side == e1 <;> rfl
 ·have hfa := iC ys e1 (fun k => [PV.int 0, PV.str m0, PV.int m1, PV.int m2, PV.int m3, PV.int m4, PV.int m5, PV.int m6, PV.int m7, PV.bool m8, PV.int m9, PV.int m10, PV.int m11, PV.int m12, PV.rows m13, PV.int m14, PV.int m15, PV.bool m16, PV.rows (AO (ys.set k (NE (inn ys k)))), PV.int m18, PV.int m19, PV.int m20, PV.int m21, PV.int m22]) m17.length m17.length (Nat.le_refl _)
  rw [Nat.sub_self] at hfa
  rw [hfa]
  unfold Kf
  simp only [ly]
  cases Rb ys e1 m17.length with
  | some k => rfl
  | none =>
   rcases hside with h | h <;> subst h
   ·simp only [Option.map_none, RJ, PXb, PXc, CL, Int.reduceBEq, wr1, VS]
    rfl
   ·simp only [Option.map_none, RJ, PXb, PXc, CL, Int.reduceBEq, wr2, U9]
    rfl
set_option maxHeartbeats 4000000 in
theorem qe {N : Nat} {m1 m2 m3 m4 m5 m6 m7 m9 m10 m11 m12 m14 m15 m18 m19 m20 m21 m22 : Int} {m8 m16 : Bool} {m0 : ByteArray} {m13 : Rows} {m17 : List Inn} {e0 e1 e2 e3 e5 e6 e7 e8 e9 e10 e11 e13 e14 e15 e16 e18 : Int} {e4 e12 e17 : Bool} (hN : 2097152 < N) (hf : C6 m17) (hl : m17.length ≤ 1000000) (hs : m0.size ≤ 1048576) (h13 : m13.length ≤ 1048576) (ok : MatOk (⟨⟨m0, m1, m2, m3, m4, m5, m6, m7, m8, m9, m10, m11, m12, m13⟩, m14, m15, m16, m17, m18, m19, m20, m21, m22⟩ : Mat)) (hv : CV (⟨⟨m0, m1, m2, m3, m4, m5, m6, m7, m8, m9, m10, m11, m12, m13⟩, m14, m15, m16, m17, m18, m19, m20, m21, m22⟩ : Mat) = true) (he : (evS (⟨e0, e1, e2, e3, e4, e5, e6, ⟨e7, e8, e9, e10, e11, e12, e13, e14, e15, e16, e17, e18⟩⟩ : Ev) == 0) = true) : Pt N [.str m0, .int m1, .int m2, .int m3, .int m4, .int m5, .int m6, .int m7, .bool m8, .int m9, .int m10, .int m11, .int m12, .rows m13, .int m14, .int m15, .bool m16, .rows (AO m17), .int m18, .int m19, .int m20, .int m21, .int m22, .int e0, .int e1, .int e2, .int e3, .bool e4, .int e5, .int e6, .int e7, .int e8, .int e9, .int e10, .int e11, .bool e12, .int e13, .int e14, .int e15, .int e16, .bool e17, .int e18] = some (Eo (HT (⟨⟨m0, m1, m2, m3, m4, m5, m6, m7, m8, m9, m10, m11, m12, m13⟩, m14, m15, m16, m17, m18, m19, m20, m21, m22⟩ : Mat) (⟨e0, e1, e2, e3, e4, e5, e6, ⟨e7, e8, e9, e10, e11, e12, e13, e14, e15, e16, e17, e18⟩⟩ : Ev))) := by
 show Pv (std (EG N) N) (xOf _) = _
 simp only [Pv, OK, Pw, P1, std, xOf, PXb]
 unfold HT
 cases hk1 : e0 == 1
 case true =>
  simp only [PXb, OK, F0]
  cases m14 == 1 <;> cases e4 <;> rfl
 cases hk2 : e0 == 2
 case true =>
  simp only [PXb]
  cases hs2 : m14 == 2
  case false => rfl
  simp only [PXb, Pw, pd hN hf hl hs h13 ok hv hs2]
  rfl
 cases hk3 : e0 == 12
 case true =>
  simp only [PXb]
  cases m14 == 4 <;> cases e1 == m15 <;> rfl
 cases hk4 : e0 == 16
 case true =>
  simp only [PXb, kL, V4]
  cases h3 : m14 == 3
  case false =>
   simp only [PXb, PXc, PXi, PXr, CL, Nat.reduceAdd]
   cases m3 == 0 <;> rfl
  simp only [PXb, PXc, PXi, PXr, CL, Nat.reduceAdd, MI (ok.begun h3) hl]
  cases m3 == 0 <;> rfl
 simp only [PXb]
 cases h3 : m14 == 3
 case false => rfl
 simp only [PXb, P1, pK hN hf hl hs h13 ok he h3]
 rfl
theorem kq {N : Nat} {m1 m2 m3 m4 m5 m6 m7 m9 m10 m11 m12 m14 m15 m18 m19 m20 m21 m22 : Int} {m8 m16 : Bool} {m0 : ByteArray} {m13 : Rows} {m17 : List Inn} (hf : C6 m17) (hN : 2097152 < N) (hl : m17.length ≤ 1000000) (hs : m0.size ≤ 1048576) (h0 : ((m17.length : Int) == 0) = false) : I4 N [.str m0, .int m1, .int m2, .int m3, .int m4, .int m5, .int m6, .int m7, .bool m8, .int m9, .int m10, .int m11, .int m12, .rows m13, .int m14, .int m15, .bool m16, .rows (AO m17), .int m18, .int m19, .int m20, .int m21, .int m22] = some (Of (⟨⟨m0, m1, m2, m3, m4, m5, m6, m7, m8, m9, m10, m11, m12, m13⟩, m14, m15, m16, m17, m18, m19, m20, m21, m22⟩ : Mat)).ls := by
 show JM (std (CG N) N) (xOf _) = _
 have hl5 : m17.length ≤ 1048576 := by omega
 simp only [JM, WI, VO, Ul, SK, std, xOf, PXb, RY h0 hl, F0, KQ hN hl5, jf hf hN hl hs, PXi]
 unfold Of
 simp only [A4, BT, lnx, PXm]
 cases hq1 : ((m17.length : Int) == IntKind.i64.wrap (2 * m2))
 case true => rfl
 cases hq2 : ((m17.length : Int) == 3)
 case true =>
  simp only [PXb]
  cases iLt (Fv m17 (inn m17 (IntKind.i64.wrap ((m17.length : Int) - 1)).toNat).side m17.length) (Fv m17 (Bb (inn m17 (IntKind.i64.wrap ((m17.length : Int) - 1)).toNat).side) m17.length)
  case true => rfl
  simp only [PXb]
  cases ((m17.length : Int) == 2) <;> cases iLt 0 m10 <;> try rfl
  simp only [PXb]
  cases iLe m10 (IntKind.i64.wrap (Fv m17 m15 m17.length - Fv m17 (Bb m15) m17.length)) <;> rfl
 simp only [PXb]
 cases ((m17.length : Int) == 2) <;> cases iLt 0 m10 <;> try rfl
 simp only [PXb]
 cases iLe m10 (IntKind.i64.wrap (Fv m17 m15 m17.length - Fv m17 (Bb m15) m17.length)) <;> rfl
set_option maxHeartbeats 4000000 in
theorem oy {N : Nat} {m1 m2 m3 m4 m5 m6 m7 m9 m10 m11 m12 m14 m15 m18 m19 m20 m21 m22 : Int} {m8 m16 : Bool} {m0 : ByteArray} {m13 : Rows} {m17 : List Inn} {e0 e1 e2 e3 e5 e6 e7 e8 e9 e10 e11 e13 e14 e15 e16 e18 : Int} {e4 e12 e17 : Bool} (hN : 2097152 < N) (hf : C6 m17) (hl : m17.length ≤ 1000000) (hs : m0.size ≤ 1048576) (h13 : m13.length ≤ 1048576) : Ne N [.str m0, .int m1, .int m2, .int m3, .int m4, .int m5, .int m6, .int m7, .bool m8, .int m9, .int m10, .int m11, .int m12, .rows m13, .int m14, .int m15, .bool m16, .rows (AO m17), .int m18, .int m19, .int m20, .int m21, .int m22, .int e0, .int e1, .int e2, .int e3, .bool e4, .int e5, .int e6, .int e7, .int e8, .int e9, .int e10, .int e11, .bool e12, .int e13, .int e14, .int e15, .int e16, .bool e17, .int e18] = some (Eo (Eu (⟨⟨m0, m1, m2, m3, m4, m5, m6, m7, m8, m9, m10, m11, m12, m13⟩, m14, m15, m16, m17, m18, m19, m20, m21, m22⟩ : Mat) (⟨e0, e1, e2, e3, e4, e5, e6, ⟨e7, e8, e9, e10, e11, e12, e13, e14, e15, e16, e17, e18⟩⟩ : Ev))) := by
 show Mu (std (B8 N) N) (xOf _) = _
 generalize hres : (some (Eo (Eu (⟨⟨m0, m1, m2, m3, m4, m5, m6, m7, m8, m9, m10, m11, m12, m13⟩, m14, m15, m16, m17, m18, m19, m20, m21, m22⟩ : Mat) (⟨e0, e1, e2, e3, e4, e5, e6, ⟨e7, e8, e9, e10, e11, e12, e13, e14, e15, e16, e17, e18⟩⟩ : Ev))) : Option (List PV)) = RR
 simp only [Mu, XG, Nb, Xk, QJ, OY, MJ, std, xOf, PXb, U8 hf hN hl hs, cH, bk hf hN hl h13]
 subst hres; simp only [Eu]
 cases hv : CV (⟨⟨m0, m1, m2, m3, m4, m5, m6, m7, m8, m9, m10, m11, m12, m13⟩, m14, m15, m16, m17, m18, m19, m20, m21, m22⟩ : Mat)
 case false => rfl
 cases he : evS (⟨e0, e1, e2, e3, e4, e5, e6, ⟨e7, e8, e9, e10, e11, e12, e13, e14, e15, e16, e17, e18⟩⟩ : Ev) == 0
 case false => simp only [PXb, he]; rfl
 simp only [PXb, he]
 cases h5 : m14 == 5
 case true => rfl
 have ok := aE hv
 simp only [PXb, PXc, CL, Nat.reduceAdd, Nb, bk hf hN hl h13, QJ, qe hN hf hl hs h13 ok hv he]
 have ak := lH ok (⟨e0, e1, e2, e3, e4, e5, e6, ⟨e7, e8, e9, e10, e11, e12, e13, e14, e15, e16, e17, e18⟩⟩ : Ev)
 generalize HT (⟨⟨m0, m1, m2, m3, m4, m5, m6, m7, m8, m9, m10, m11, m12, m13⟩, m14, m15, m16, m17, m18, m19, m20, m21, m22⟩ : Mat) (⟨e0, e1, e2, e3, e4, e5, e6, ⟨e7, e8, e9, e10, e11, e12, e13, e14, e15, e16, e17, e18⟩⟩ : Ev) = A at ak
 obtain ⟨⟨⟨a0, a1, a2, a3, a4, a5, a6, a7, a8, a9, a10, a11, a12, a13⟩, a14, a15, a16, a17, a18, a19, a20, a21, a22⟩, l⟩ := A
 obtain ⟨k1, k2, k3, k4⟩ := ak
 simp only at k1 k2 k3 k4
 have hl5 : a17.length ≤ 1000000 := by omega
 have hs5 : a0.size ≤ 1048576 := by
  have := congrArg Rul.name k1
  simp only at this
  rw [this]; exact hs
 simp only [PXb, PXc, PXk, PXi, CL, Nat.reduceAdd]
 cases hl0 : l == 0
 case false => rfl
 simp only [PXb, Me]
 cases h3 : a14 == 3
 case false => rfl
 have h0 := k4 hl0 h3
 simp only [PXb, PXc, PXi, OY, RY h0 hl5, BT, MJ, kq k2 hN hl5 hs5 h0, PXm]
 cases (inn a17 (lnx a17)).ending == 0 <;> rfl
end Go.Px
end
section
namespace Go.Px
set_option maxRecDepth 100000
theorem nE (m : Mat) : (Of m).rules = m.rules ∧ (Of m).inns = m.inns := by
 unfold Of
 dsimp only
 cases ((m.inns.length : Int) == IntKind.i64.wrap (2 * m.rules.innings) || ((m.inns.length : Int) == 3 && iLt (A4 m (BT m).side) (A4 m (Bb (BT m).side)))) with
 | true => exact ⟨rfl, rfl⟩
 | false =>
  cases ((m.inns.length : Int) == 2 && iLt 0 m.rules.followon && iLe m.rules.followon (IntKind.i64.wrap (A4 m m.first - A4 m (Bb m.first)))) <;> exact ⟨rfl, rfl⟩
theorem gY (m : Mat) : (Me m).rules = m.rules ∧ (Me m).inns = m.inns := by
 unfold Me
 cases (m.stage == 3 && !((BT m).ending == 0)) with
 | true => exact nE m
 | false => exact ⟨rfl, rfl⟩
structure StepOk (r : Rul) (m : Mat) : Prop where
 rules : m.rules = r
 fit : C6 m.inns
 len : m.inns.length ≤ 5
theorem pY {r : Rul} {m : Mat} (h : StepOk r m) (e : Ev) : StepOk r (Eu m e).1 := by
 unfold Eu
 cases hv : CV m with
 | false => exact h
 | true =>
  cases he : evS e == 0 with
  | false => exact h
  | true =>
   cases h5 : m.stage == 5 with
   | true => exact h
   | false =>
    have a := lH (aE hv) e
    cases hx : (HT m e).2 == 0 with
    | false => exact h
    | true =>
     have k := gY (HT m e).1
     exact ⟨k.1.trans (a.rules.trans h.rules), by show C6 (Me _).inns; rw [k.2]; exact a.fit, by show (Me _).inns.length ≤ 5; rw [k.2]; exact a.len⟩
theorem go (r : Rul) (h : ((JJ r).2 == 0) = true) : StepOk r (JJ r).1 := by
 unfold JJ at h ⊢
 cases hc : Az r == 0 with
 | false => rw [hc] at h; exact absurd (show (Az r == 0) = true from h) (by rw [hc]; decide)
 | true => exact ⟨rfl, fun i hi => absurd hi (Nat.not_lt_zero i), Nat.zero_le _⟩
theorem ry {m : Mat} {e : Ev} (h : ((Eu m e).2 == 0) = true) : CV m = true ∧ (evS e == 0) = true ∧ (m.stage == 5) = false ∧ ((HT m e).2 == 0) = true ∧ (Eu m e).1 = Me (HT m e).1 := by
 unfold Eu at h ⊢
 cases hv : CV m with
 | false => rw [hv] at h; exact absurd (show ((1 : Int) == 0) = true from h) (by decide)
 | true =>
  cases he : evS e == 0 with
  | false => rw [hv, he] at h; exact absurd (show ((1 : Int) == 0) = true from h) (by decide)
  | true =>
   cases h5 : m.stage == 5 with
   | true => rw [hv, he, h5] at h; exact absurd (show ((26 : Int) == 0) = true from h) (by decide)
   | false =>
    cases hx : (HT m e).2 == 0 with
    | false => rw [hv, he, h5, hx] at h; exact absurd (show ((HT m e).2 == 0) = true from h) (by rw [hx]; decide)
    | true => exact ⟨rfl, rfl, rfl, rfl, rfl⟩
theorem pf {m : Mat} {e : Ev} (h : ((Eu m e).2 == 0) = true) (hk : (e.kind == 4) = true) : (m.stage == 3) = true ∧ ((m.inns.length : Int) == 0) = false ∧ ((Ce m.rules (BT m) e).2 == 0) = true ∧ (Eu m e).1.inns = m.inns.set (lnx m.inns) (Ce m.rules (BT m) e).1 := by
 obtain ⟨hv, he, h5, ha, hs⟩ := ry h
 have hk4 := beq_iff_eq.1 hk
 rw [hs, (gY _).2]
 unfold HT at ha ⊢
 simp only [hk4, Int.reduceBEq, cond_false] at ha ⊢
 cases h3 : m.stage == 3 with
 | false => rw [h3] at ha; exact absurd (show ((1 : Int) == 0) = true from ha) (by decide)
 | true =>
  rw [h3] at ha
  simp only [Bool.not_true, cond_false] at ha ⊢
  unfold bB at ha ⊢
  cases hq : (Ce m.rules (BT m) e).2 == 0 with
  | false => simp only [hq, Bool.not_false, cond_true] at ha; exact absurd ha Bool.false_ne_true
  | true =>
   simp only [hk4, Int.reduceBEq, Bool.false_and, hq, Bool.not_true, cond_false]
   exact ⟨trivial, (aE hv).begun h3, trivial, trivial⟩
theorem po (b : ByteArray) : (b.toList == b.toList) = true := beq_self_eq_true _
theorem eX {N : Nat} {r1 r2 r3 r4 r5 r6 r7 r9 r10 r11 r12 : Int} {r8 : Bool} {r0 : ByteArray} {r13 : Rows} (hN : 2097152 < N) (h13 : r13.length ≤ 1048576) : NO N [.str r0, .int r1, .int r2, .int r3, .int r4, .int r5, .int r6, .int r7, .bool r8, .int r9, .int r10, .int r11, .int r12, .rows r13, .str r0, .int r1, .int r2, .int r3, .int r4, .int r5, .int r6, .int r7, .bool r8, .int r9, .int r10, .int r11, .int r12, .rows r13] = some [.bool true] := by
 show Rh (std (Z8 N) N) (xOf _) = _
 simp only [Rh, std, xOf, PXb, PXm]
 refine AN (Dq (len := r13.length) (fun i => [.int (i : Int)]) [.int 1] ?_ ?_ N (by omega)) ?_
 ·intro self
  simp only [PXb, PXc, PXn, AB, Ao]
 ·intro i self hi
  simp only [PXb, PXc, PXn, PXm, Nat.reduceAdd, Int.reduceBEq, AR (show i ≤ 1099511627776 by omega), Ai hi, AQ hi]
  rfl
 ·simp only [PXb, PXc, PXn, PXm, Nat.reduceAdd, Int.reduceBEq, po]
theorem fo {N : Nat} {m1 m2 m3 m4 m5 m6 m7 m9 m10 m11 m12 m14 m15 m18 m19 m20 m21 m22 : Int} {m8 m16 : Bool} {m0 : ByteArray} {m13 : Rows} {m17 : List Inn} (hN : 2097152 < N) (hf : C6 m17) (hl : m17.length ≤ 1000000) (h13 : m13.length ≤ 1048576) : Rx N [.str m0, .int m1, .int m2, .int m3, .int m4, .int m5, .int m6, .int m7, .bool m8, .int m9, .int m10, .int m11, .int m12, .rows m13, .int m14, .int m15, .bool m16, .rows (AO m17), .int m18, .int m19, .int m20, .int m21, .int m22, .str m0, .int m1, .int m2, .int m3, .int m4, .int m5, .int m6, .int m7, .bool m8, .int m9, .int m10, .int m11, .int m12, .rows m13, .int m14, .int m15, .bool m16, .rows (AO m17), .int m18, .int m19, .int m20, .int m21, .int m22] = some [.bool true] := by
 show Ru (std (ND N) N) (xOf _) = _
 simp only [Ru, OW, Yj, std, xOf, PXb, PXm, eX hN h13, PXi]
 refine AN (Dq (len := m17.length) (fun i => [.int (i : Int)]) [.int 1] ?_ ?_ N (by omega)) ?_
 ·intro self
  simp only [PXb, PXc, PXn, AB, Ao]
 ·intro i self hi
  simp only [PXb, PXc, PXn, PXm, Nat.reduceAdd, Int.reduceBEq, AR (show i ≤ 1099511627776 by omega), Ai hi, AQ hi, PXi, OW, pP (hf i hi) hN, q9]
  rfl
 ·simp only [PXb, PXc, PXn, PXm, Nat.reduceAdd, Int.reduceBEq]
end Go.Px
end
section
namespace Go.Px
set_option maxRecDepth 100000
def evR (L : Rows) (i : Nat) : Ev := ⟨atI L i 0, atI L i 1, atI L i 2, atI L i 3, atB L i 4, atI L i 5, atI L i 6, ⟨atI L i 7, atI L i 8, atI L i 9, atI L i 10, atI L i 11, atB L i 12, atI L i 13, atI L i 14, atI L i 15, atI L i 16, atB L i 17, atI L i 18⟩⟩
theorem sy (L : Rows) (i : Nat) : (⟨atI L i 0, atI L i 1, atI L i 2, atI L i 3, atB L i 4, atI L i 5, atI L i 6, ⟨atI L i 7, atI L i 8, atI L i 9, atI L i 10, atI L i 11, atB L i 12, atI L i 13, atI L i 14, atI L i 15, atI L i 16, atB L i 17, atI L i 18⟩⟩ : Ev) = evR L i := rfl
def BJ (i : Int) (m : Mat) (e : Ev) : Mat × Int := cond (iLe 4000 i) (m, 26) (Eu m e)
def C7 (L : Rows) : Nat → Nat → Mat → Mat × Int × Int
 | 0, _, m => (m, -1, 0)
 | k + 1, i, m => cond (!((BJ i m (evR L i)).2 == 0)) (m, (i : Int), (BJ i m (evR L i)).2) (C7 L k (i + 1) (BJ i m (evR L i)).1)
def kl (i : Int) (m t : Mat) (d : Del) : List PV :=
 [.int i, .int (IntKind.i64.wrap ((m.inns.length : Int) - 1)), .int (BT m).complete, .int (BT m).inover, .int (BT m).bowler, .int (BT m).striker, .int (BT m).other, .bool (BT m).freehit,
  .int d.type, .int d.source, .int d.runs, .int d.short, .int d.boundary, .bool d.crossed, .int d.how, .int d.victim, .int d.fielder, .int d.second, .bool d.sub, .int d.sector,
  .int (A7 m.rules d).batter, .int (A7 m.rules d).wides, .int (A7 m.rules d).noballs, .int (A7 m.rules d).byes, .int (A7 m.rules d).legbyes, .int (A7 m.rules d).bowler, .bool (A7 m.rules d).counts, .bool (A7 m.rules d).faced, .bool (A7 m.rules d).wicket, .bool (A7 m.rules d).swap,
  .int (inn t.inns (lnx m.inns)).runs, .int (inn t.inns (lnx m.inns)).wickets]
def em (L : Rows) : Nat → Nat → Mat → Rows → Rows
 | 0, _, _, out => out
 | k + 1, i, m, out => cond (!((BJ i m (evR L i)).2 == 0)) out (em L k (i + 1) (BJ i m (evR L i)).1 (cond ((evR L i).kind == 4) (out ++ [kl i m (BJ i m (evR L i)).1 (evR L i).ball]) out))
def UW (f : Mat × Int × Int) : List PV := [.str f.1.rules.name, .int f.1.rules.side, .int f.1.rules.innings, .int f.1.rules.overs, .int f.1.rules.balls, .int f.1.rules.quota, .int f.1.rules.wide, .int f.1.rules.noball, .bool f.1.rules.freehit, .int f.1.rules.newball, .int f.1.rules.followon, .int f.1.rules.reviews, .int f.1.rules.outside, .rows f.1.rules.power, .int f.1.stage, .int f.1.first, .bool f.1.follow, .rows (AO f.1.inns), .int f.1.pen1, .int f.1.pen2, .int f.1.win, .int f.1.wside, .int f.1.margin, .int f.2.1, .int f.2.2]
def B6 (r : Rul) (L : Rows) : Mat × Int × Int := cond (!((JJ r).2 == 0)) (au, 0, 1) (C7 L L.length 0 (JJ r).1)
def iM (r : Rul) (L : Rows) : Rows := cond (!((JJ r).2 == 0)) [] (em L L.length 0 (JJ r).1 [])
theorem dc (L : Rows) : ∀ k i m, ((C7 L k i m).2.1 == -1) = true → (C7 L k i m).2.2 = 0
 | 0, _, _, _ => rfl
 | k + 1, i, m, h => by
  unfold C7 at h ⊢
  cases hq : (BJ i m (evR L i)).2 == 0 with
  | false =>
   rw [hq] at h
   have := beq_iff_eq.1 (show ((i : Int) == -1) = true from h)
   omega
  | true => rw [hq] at h; exact dc L k (i + 1) _ h
theorem dy {r : Rul} {m : Mat} (h : StepOk r m) (i : Int) (e : Ev) : StepOk r (BJ i m e).1 := by
 unfold BJ
 cases iLe 4000 i with
 | true => exact h
 | false => exact pY h e
theorem uf {m : Mat} {i : Int} {e : Ev} (h : ((BJ i m e).2 == 0) = true) : BJ i m e = Eu m e ∧ iLe 4000 i = false := by
 unfold BJ at h ⊢
 cases h4 : iLe 4000 i with
 | true => rw [h4] at h; exact absurd (show ((26 : Int) == 0) = true from h) (by decide)
 | false => exact ⟨rfl, rfl⟩
theorem qI {N : Nat} {m1 m2 m3 m4 m5 m6 m7 m9 m10 m11 m12 m14 m15 m18 m19 m20 m21 m22 : Int} {m8 m16 : Bool} {m0 : ByteArray} {m13 : Rows} {m17 : List Inn} {i : Int} {e0 e1 e2 e3 e5 e6 e7 e8 e9 e10 e11 e13 e14 e15 e16 e18 : Int} {e4 e12 e17 : Bool} (hN : 2097152 < N) (hf : C6 m17) (hl : m17.length ≤ 1000000) (hs : m0.size ≤ 1048576) (h13 : m13.length ≤ 1048576) : NC N [.str m0, .int m1, .int m2, .int m3, .int m4, .int m5, .int m6, .int m7, .bool m8, .int m9, .int m10, .int m11, .int m12, .rows m13, .int m14, .int m15, .bool m16, .rows (AO m17), .int m18, .int m19, .int m20, .int m21, .int m22, .int i, .int e0, .int e1, .int e2, .int e3, .bool e4, .int e5, .int e6, .int e7, .int e8, .int e9, .int e10, .int e11, .bool e12, .int e13, .int e14, .int e15, .int e16, .bool e17, .int e18] = some (Eo (BJ i (⟨⟨m0, m1, m2, m3, m4, m5, m6, m7, m8, m9, m10, m11, m12, m13⟩, m14, m15, m16, m17, m18, m19, m20, m21, m22⟩ : Mat) (⟨e0, e1, e2, e3, e4, e5, e6, ⟨e7, e8, e9, e10, e11, e12, e13, e14, e15, e16, e17, e18⟩⟩ : Ev))) := by
 show Ny (std (Gu N) N) (xOf _) = _
 generalize hres : (some (Eo (BJ i (⟨⟨m0, m1, m2, m3, m4, m5, m6, m7, m8, m9, m10, m11, m12, m13⟩, m14, m15, m16, m17, m18, m19, m20, m21, m22⟩ : Mat) (⟨e0, e1, e2, e3, e4, e5, e6, ⟨e7, e8, e9, e10, e11, e12, e13, e14, e15, e16, e17, e18⟩⟩ : Ev))) : Option (List PV)) = RR
 simp only [Ny, Vg, std, xOf, PXb, lM hN hf hl hs h13]
 subst hres; simp only [BJ]
 cases iLe 4000 i <;> rfl
theorem eS {N : Nat} {i : Int} {m1 m2 m3 m4 m5 m6 m7 m9 m10 m11 m12 m14 m15 m18 m19 m20 m21 m22 : Int} {m8 m16 : Bool} {m0 : ByteArray} {m13 : Rows} {m17 : List Inn} {t1 t2 t3 t4 t5 t6 t7 t9 t10 t11 t12 t14 t15 t18 t19 t20 t21 t22 : Int} {t8 t16 : Bool} {t0 : ByteArray} {t13 : Rows} {t17 : List Inn} {d0 d1 d2 d3 d4 d6 d7 d8 d9 d11 : Int} {d5 d10 : Bool} (h1 : iIn (IntKind.i64.wrap ((m17.length : Int) - 1)) (m17.length : Int) = true) (h2 : iIn (IntKind.i64.wrap ((m17.length : Int) - 1)) (t17.length : Int) = true) : Ir N [.int i, .str m0, .int m1, .int m2, .int m3, .int m4, .int m5, .int m6, .int m7, .bool m8, .int m9, .int m10, .int m11, .int m12, .rows m13, .int m14, .int m15, .bool m16, .rows (AO m17), .int m18, .int m19, .int m20, .int m21, .int m22, .str t0, .int t1, .int t2, .int t3, .int t4, .int t5, .int t6, .int t7, .bool t8, .int t9, .int t10, .int t11, .int t12, .rows t13, .int t14, .int t15, .bool t16, .rows (AO t17), .int t18, .int t19, .int t20, .int t21, .int t22, .int d0, .int d1, .int d2, .int d3, .int d4, .bool d5, .int d6, .int d7, .int d8, .int d9, .bool d10, .int d11] = some (kl i (⟨⟨m0, m1, m2, m3, m4, m5, m6, m7, m8, m9, m10, m11, m12, m13⟩, m14, m15, m16, m17, m18, m19, m20, m21, m22⟩ : Mat) (⟨⟨t0, t1, t2, t3, t4, t5, t6, t7, t8, t9, t10, t11, t12, t13⟩, t14, t15, t16, t17, t18, t19, t20, t21, t22⟩ : Mat) (⟨d0, d1, d2, d3, d4, d5, d6, d7, d8, d9, d10, d11⟩ : Del)) := by
 show Ip (std (KM N) N) (xOf _) = _
 simp only [Ip, MP, std, xOf, PXb, PXi, h1, h2, Q5]
 rfl
def Si (L : Rows) (i : Nat) (m : Mat) : List PV ⊕ Mat := cond (!((BJ i m (evR L i)).2 == 0)) (.inl (.int 0 :: .int i :: .int (BJ i m (evR L i)).2 :: m.ls)) (.inr (BJ i m (evR L i)).1)
def pJ (f : Mat × Int × Int) : List PV := cond (f.2.1 == -1) (.int 1 :: f.1.ls) (.int 0 :: .int f.2.1 :: .int f.2.2 :: f.1.ls)
theorem jH (L : Rows) : ∀ k i m, W7 (Si L) (fun m => .int 1 :: m.ls) k i m = pJ (C7 L k i m)
 | 0, _, _ => rfl
 | k + 1, i, m => by
  simp only [W7, Si, C7]
  cases (BJ i m (evR L i)).2 == 0 with
  | false =>
   simp only [Bool.not_false, cond_true, pJ]
   rw [show ((i : Int) == -1) = false from beq_false_of_ne (show (i : Int) ≠ -1 by omega)]
   rfl
  | true => exact jH L k (i + 1) _
set_option maxHeartbeats 4000000 in
theorem oh {N : Nat} {m1 m2 m3 m4 m5 m6 m7 m9 m10 m11 m12 m14 m15 m18 m19 m20 m21 m22 : Int} {m8 m16 : Bool} {m0 : ByteArray} {m13 : Rows} {m17 : List Inn} {L : Rows} (hN : 2097152 < N) (hf : C6 m17) (hl : m17.length ≤ 5) (hs : m0.size ≤ 1048576) (h13 : m13.length ≤ 1048576) (hL : L.length ≤ 1048576) : Nq N [.str m0, .int m1, .int m2, .int m3, .int m4, .int m5, .int m6, .int m7, .bool m8, .int m9, .int m10, .int m11, .int m12, .rows m13, .int m14, .int m15, .bool m16, .rows (AO m17), .int m18, .int m19, .int m20, .int m21, .int m22, .rows L] = some (UW (C7 L L.length 0 (⟨⟨m0, m1, m2, m3, m4, m5, m6, m7, m8, m9, m10, m11, m12, m13⟩, m14, m15, m16, m17, m18, m19, m20, m21, m22⟩ : Mat))) := by
  show NT (std (GX N) N) (xOf _) = _
  generalize hres : (some (UW (C7 L L.length 0 (⟨⟨m0, m1, m2, m3, m4, m5, m6, m7, m8, m9, m10, m11, m12, m13⟩, m14, m15, m16, m17, m18, m19, m20, m21, m22⟩ : Mat))) : Option (List PV)) = RR
  simp only [NT, OL, std, xOf, PXb]
  subst hres
  refine AN (Za (St := Mat) (len := L.length) (enc := fun i m => [.int (i : Int), .str m.rules.name, .int m.rules.side, .int m.rules.innings, .int m.rules.overs, .int m.rules.balls, .int m.rules.quota, .int m.rules.wide, .int m.rules.noball, .bool m.rules.freehit, .int m.rules.newball, .int m.rules.followon, .int m.rules.reviews, .int m.rules.outside, .rows m.rules.power, .int m.stage, .int m.first, .bool m.follow, .rows (AO m.inns), .int m.pen1, .int m.pen2, .int m.win, .int m.wside, .int m.margin])
    (body := Si L) (fin := fun m => .int 1 :: m.ls) (fun _ m => StepOk (⟨m0, m1, m2, m3, m4, m5, m6, m7, m8, m9, m10, m11, m12, m13⟩ : Rul) m) ?_ ?_ L.length 0 (⟨⟨m0, m1, m2, m3, m4, m5, m6, m7, m8, m9, m10, m11, m12, m13⟩, m14, m15, m16, m17, m18, m19, m20, m21, m22⟩ : Mat) N (by omega) (by omega) ⟨rfl, hf, hl⟩) ?_
  · intro m self _
    simp only [PXb, PXc, PXn, AB, Ao]
    rfl
  · intro i m self hi ok
    obtain ⟨⟨a0, a1, a2, a3, a4, a5, a6, a7, a8, a9, a10, a11, a12, a13⟩, a14, a15, a16, a17, a18, a19, a20, a21, a22⟩ := m
    have o1 := ok.rules
    have o2 := ok.fit
    have o3 := ok.len
    simp only at o1 o2 o3
    cases o1
    have kp := dy ok (i : Int) (evR L i)
    refine ⟨?_, ?_⟩
    · simp only [PXb, PXc, PXn, AB, AR (show i ≤ 1099511627776 by omega), Ai hi, AQ hi, OL, oy hN o2 (show a17.length ≤ 1000000 by omega) hs h13, BF, gz, Nat.reduceAdd, PXk, PXc, sy]
      unfold Si BJ
      cases iLe 4000 (i : Int)
      case true => rfl
      simp only [cond_false]
      cases (Eu (⟨⟨m0, m1, m2, m3, m4, m5, m6, m7, m8, m9, m10, m11, m12, m13⟩, a14, a15, a16, a17, a18, a19, a20, a21, a22⟩ : Mat) (evR L i)).2 == 0 <;> rfl
    · intro s' h
      unfold Si at h
      cases hq : (BJ (i : Int) (⟨⟨m0, m1, m2, m3, m4, m5, m6, m7, m8, m9, m10, m11, m12, m13⟩, a14, a15, a16, a17, a18, a19, a20, a21, a22⟩ : Mat) (evR L i)).2 == 0 with
      | false => rw [hq] at h; cases h
      | true => rw [hq] at h; cases h; exact kp
  · rw [jH]
    have he := dc L L.length 0 (⟨⟨m0, m1, m2, m3, m4, m5, m6, m7, m8, m9, m10, m11, m12, m13⟩, m14, m15, m16, m17, m18, m19, m20, m21, m22⟩ : Mat)
    generalize C7 L L.length 0 (⟨⟨m0, m1, m2, m3, m4, m5, m6, m7, m8, m9, m10, m11, m12, m13⟩, m14, m15, m16, m17, m18, m19, m20, m21, m22⟩ : Mat) = f at he
    obtain ⟨⟨⟨a0, a1, a2, a3, a4, a5, a6, a7, a8, a9, a10, a11, a12, a13⟩, a14, a15, a16, a17, a18, a19, a20, a21, a22⟩, b, l⟩ := f
    simp only at he
    unfold pJ
    cases hb : b == -1 with
    | false => rfl
    | true =>
      rw [he hb, beq_iff_eq.1 hb]
      rfl
end Go.Px
end
section
namespace Go.Px
set_option maxRecDepth 100000
def SD (L : Rows) (i : Nat) (s : Rows × Mat) : List PV ⊕ Rows × Mat := cond (!((BJ i s.2 (evR L i)).2 == 0)) (.inl (.int 0 :: .rows s.1 :: .int i :: .int (BJ i s.2 (evR L i)).2 :: s.2.ls)) (.inr (cond ((evR L i).kind == 4) (s.1 ++ [kl i s.2 (BJ i s.2 (evR L i)).1 (evR L i).ball]) s.1, (BJ i s.2 (evR L i)).1))
def qE (out : Rows) (f : Mat × Int × Int) : List PV := cond (f.2.1 == -1) (.int 1 :: .rows out :: f.1.ls) (.int 0 :: .rows out :: .int f.2.1 :: .int f.2.2 :: f.1.ls)
theorem ij (L : Rows) : ∀ k i s, W7 (SD L) (fun s => .int 1 :: .rows s.1 :: s.2.ls) k i s = qE (em L k i s.2 s.1) (C7 L k i s.2)
 | 0, _, _ => rfl
 | k + 1, i, s => by
  simp only [W7, SD, C7, em]
  cases (BJ i s.2 (evR L i)).2 == 0 with
  | false =>
   simp only [Bool.not_false, cond_true, qE]
   rw [show ((i : Int) == -1) = false from beq_false_of_ne (show (i : Int) ≠ -1 by omega)]
   rfl
  | true => exact ij L k (i + 1) _
def rE (out : Rows) (f : Mat × Int × Int) : List PV := [.rows out, .str f.1.rules.name, .int f.1.rules.side, .int f.1.rules.innings, .int f.1.rules.overs, .int f.1.rules.balls, .int f.1.rules.quota, .int f.1.rules.wide, .int f.1.rules.noball, .bool f.1.rules.freehit, .int f.1.rules.newball, .int f.1.rules.followon, .int f.1.rules.reviews, .int f.1.rules.outside, .rows f.1.rules.power, .int f.1.stage, .int f.1.first, .bool f.1.follow, .rows (AO f.1.inns), .int f.1.pen1, .int f.1.pen2, .int f.1.win, .int f.1.wside, .int f.1.margin, .int f.2.1, .int f.2.2]
theorem tz {m t : Mat} {e : Ev} (hl : m.inns.length ≤ 5) (h : ((Eu m e).2 == 0) = true) (hk : (e.kind == 4) = true) (ht : (Eu m e).1 = t) : iIn (IntKind.i64.wrap ((m.inns.length : Int) - 1)) (m.inns.length : Int) = true ∧ iIn (IntKind.i64.wrap ((m.inns.length : Int) - 1)) (t.inns.length : Int) = true := by
 obtain ⟨_, h2, _, h4⟩ := pf h hk
 have := MI h2 (show m.inns.length ≤ 1000000 by omega)
 rw [← ht, h4, List.length_set]
 exact ⟨this, this⟩
set_option maxHeartbeats 8000000 in
theorem pu {N : Nat} {r1 r2 r3 r4 r5 r6 r7 r9 r10 r11 r12 : Int} {r8 : Bool} {r0 : ByteArray} {r13 : Rows} {L : Rows} (hN : 2097152 < N) (hs : r0.size ≤ 1048576) (h13 : r13.length ≤ 1048576) (hL : L.length ≤ 1048576) : Jm N [.str r0, .int r1, .int r2, .int r3, .int r4, .int r5, .int r6, .int r7, .bool r8, .int r9, .int r10, .int r11, .int r12, .rows r13, .rows L] = some (rE (iM (⟨r0, r1, r2, r3, r4, r5, r6, r7, r8, r9, r10, r11, r12, r13⟩ : Rul) L) (B6 (⟨r0, r1, r2, r3, r4, r5, r6, r7, r8, r9, r10, r11, r12, r13⟩ : Rul) L)) := by
  show NI (std (DQ N) N) (xOf _) = _
  generalize hres : (some (rE (iM (⟨r0, r1, r2, r3, r4, r5, r6, r7, r8, r9, r10, r11, r12, r13⟩ : Rul) L) (B6 (⟨r0, r1, r2, r3, r4, r5, r6, r7, r8, r9, r10, r11, r12, r13⟩ : Rul) L)) : Option (List PV)) = RR
  simp only [NI, Xg, OO, JX, std, xOf, PXb, nS hN hs h13]
  subst hres; simp only [iM, B6]
  have nk := go (⟨r0, r1, r2, r3, r4, r5, r6, r7, r8, r9, r10, r11, r12, r13⟩ : Rul)
  generalize JJ (⟨r0, r1, r2, r3, r4, r5, r6, r7, r8, r9, r10, r11, r12, r13⟩ : Rul) = X at nk
  obtain ⟨⟨⟨m0, m1, m2, m3, m4, m5, m6, m7, m8, m9, m10, m11, m12, m13⟩, m14, m15, m16, m17, m18, m19, m20, m21, m22⟩, l⟩ := X
  simp only at nk
  simp only [PXb, PXc, PXk, Nat.reduceAdd]
  cases hl : l == 0
  case false => rfl
  have ok := nk hl
  simp only [PXb]
  refine AN (Za (St := Rows × Mat) (len := L.length) (enc := fun i s => [.rows s.1, .int (i : Int), .str s.2.rules.name, .int s.2.rules.side, .int s.2.rules.innings, .int s.2.rules.overs, .int s.2.rules.balls, .int s.2.rules.quota, .int s.2.rules.wide, .int s.2.rules.noball, .bool s.2.rules.freehit, .int s.2.rules.newball, .int s.2.rules.followon, .int s.2.rules.reviews, .int s.2.rules.outside, .rows s.2.rules.power, .int s.2.stage, .int s.2.first, .bool s.2.follow, .rows (AO s.2.inns), .int s.2.pen1, .int s.2.pen2, .int s.2.win, .int s.2.wside, .int s.2.margin])
    (body := SD L) (fin := fun s => .int 1 :: .rows s.1 :: s.2.ls) (fun i s => StepOk (⟨r0, r1, r2, r3, r4, r5, r6, r7, r8, r9, r10, r11, r12, r13⟩ : Rul) s.2 ∧ s.1.length ≤ i) ?_ ?_ L.length 0 ([], (⟨⟨m0, m1, m2, m3, m4, m5, m6, m7, m8, m9, m10, m11, m12, m13⟩, m14, m15, m16, m17, m18, m19, m20, m21, m22⟩ : Mat)) N (by omega) (by omega) ⟨ok, Nat.zero_le _⟩) ?_
  · intro m self _
    simp only [PXb, PXc, PXn, AB, Ao]
    rfl
  · intro i s self hi ok
    obtain ⟨out, ⟨⟨a0, a1, a2, a3, a4, a5, a6, a7, a8, a9, a10, a11, a12, a13⟩, a14, a15, a16, a17, a18, a19, a20, a21, a22⟩⟩ := s
    obtain ⟨ok, hout⟩ := ok
    have o1 := ok.rules
    have o2 := ok.fit
    have o3 := ok.len
    simp only at o1 o2 o3 hout
    cases o1
    have kp := dy ok (i : Int) (evR L i)
    have acc := uf (m := (⟨⟨r0, r1, r2, r3, r4, r5, r6, r7, r8, r9, r10, r11, r12, r13⟩, a14, a15, a16, a17, a18, a19, a20, a21, a22⟩ : Mat)) (i := (i : Int)) (e := evR L i)
    refine ⟨?_, ?_⟩
    · simp only [PXb, PXc, PXn, AB, AR (show i ≤ 1099511627776 by omega), Ai hi, AQ hi, OO, qI hN o2 (show a17.length ≤ 1000000 by omega) hs h13, BF, gz, Nat.reduceAdd, PXk, PXc, sy, List.length_append, List.length_cons, List.length_nil, JX]
      unfold SD
      simp only
      generalize hT : BJ (i : Int) (⟨⟨r0, r1, r2, r3, r4, r5, r6, r7, r8, r9, r10, r11, r12, r13⟩, a14, a15, a16, a17, a18, a19, a20, a21, a22⟩ : Mat) (evR L i) = T at acc
      obtain ⟨⟨⟨b0, b1, b2, b3, b4, b5, b6, b7, b8, b9, b10, b11, b12, b13⟩, b14, b15, b16, b17, b18, b19, b20, b21, b22⟩, l2⟩ := T
      simp only at acc
      simp only
      cases hl2 : l2 == 0
      case false => rfl
      have hk0 : (evR L i).kind = atI L i 0 := rfl
      rw [hk0]
      simp only [PXb]
      cases hk : atI L i 0 == 4
      case false => rfl
      have ha := (acc hl2).1
      have hd := tz (m := (⟨⟨r0, r1, r2, r3, r4, r5, r6, r7, r8, r9, r10, r11, r12, r13⟩, a14, a15, a16, a17, a18, a19, a20, a21, a22⟩ : Mat)) (e := evR L i) o3 (by rw [← ha]; exact hl2) hk (congrArg Prod.fst ha).symm
      simp only at hd
      have h216 : iSm ((out.length + 1 : Nat) : Int) 216 = true := Hd (by omega) (by omega)
      simp only [PXb, PXc, eS hd.1 hd.2, h216]
      rfl
    · intro s' h
      unfold SD at h
      simp only at h
      cases hq : (BJ (i : Int) (⟨⟨r0, r1, r2, r3, r4, r5, r6, r7, r8, r9, r10, r11, r12, r13⟩, a14, a15, a16, a17, a18, a19, a20, a21, a22⟩ : Mat) (evR L i)).2 == 0 with
      | false => rw [hq] at h; cases h
      | true =>
        rw [hq] at h; cases h
        refine ⟨kp, ?_⟩
        cases (evR L i).kind == 4 with
        | false => show out.length ≤ _; omega
        | true => show (out ++ [_]).length ≤ _; rw [List.length_append]; simp; omega
  · rw [ij]
    have he := dc L L.length 0 (⟨⟨m0, m1, m2, m3, m4, m5, m6, m7, m8, m9, m10, m11, m12, m13⟩, m14, m15, m16, m17, m18, m19, m20, m21, m22⟩ : Mat)
    simp only
    generalize em L L.length 0 (⟨⟨m0, m1, m2, m3, m4, m5, m6, m7, m8, m9, m10, m11, m12, m13⟩, m14, m15, m16, m17, m18, m19, m20, m21, m22⟩ : Mat) [] = out
    generalize C7 L L.length 0 (⟨⟨m0, m1, m2, m3, m4, m5, m6, m7, m8, m9, m10, m11, m12, m13⟩, m14, m15, m16, m17, m18, m19, m20, m21, m22⟩ : Mat) = f at he
    obtain ⟨⟨⟨a0, a1, a2, a3, a4, a5, a6, a7, a8, a9, a10, a11, a12, a13⟩, a14, a15, a16, a17, a18, a19, a20, a21, a22⟩, b, l⟩ := f
    simp only at he
    unfold qE
    cases hb : b == -1 with
    | false => rfl
    | true =>
      rw [he hb, beq_iff_eq.1 hb]
      rfl
end Go.Px
end
section
namespace Go.Px
set_option maxRecDepth 100000
theorem ke {N : Nat} {r1 r2 r3 r4 r5 r6 r7 r9 r10 r11 r12 : Int} {r8 : Bool} {r0 : ByteArray} {r13 : Rows} {L : Rows} (hN : 2097152 < N) (hs : r0.size ≤ 1048576) (h13 : r13.length ≤ 1048576) (hL : L.length ≤ 1048576) : Ek N [.str r0, .int r1, .int r2, .int r3, .int r4, .int r5, .int r6, .int r7, .bool r8, .int r9, .int r10, .int r11, .int r12, .rows r13, .rows L] = some (UW (B6 (⟨r0, r1, r2, r3, r4, r5, r6, r7, r8, r9, r10, r11, r12, r13⟩ : Rul) L)) := by
 show I3 (std (EM N) N) (xOf _) = _
 generalize hres : (some (UW (B6 (⟨r0, r1, r2, r3, r4, r5, r6, r7, r8, r9, r10, r11, r12, r13⟩ : Rul) L)) : Option (List PV)) = RR
 simp only [I3, WN, std, xOf, PXb, pu hN hs h13 hL]
 subst hres
 rfl
theorem mi {N : Nat} {r1 r2 r3 r4 r5 r6 r7 r9 r10 r11 r12 : Int} {r8 : Bool} {r0 : ByteArray} {r13 : Rows} {L : Rows} (hN : 2097152 < N) (hs : r0.size ≤ 1048576) (h13 : r13.length ≤ 1048576) (hL : L.length ≤ 1048576) : Gx N [.str r0, .int r1, .int r2, .int r3, .int r4, .int r5, .int r6, .int r7, .bool r8, .int r9, .int r10, .int r11, .int r12, .rows r13, .rows L] = some (UW (B6 (⟨r0, r1, r2, r3, r4, r5, r6, r7, r8, r9, r10, r11, r12, r13⟩ : Rul) L)) := by
 show JS (std (DH N) N) (xOf _) = _
 generalize hres : (some (UW (B6 (⟨r0, r1, r2, r3, r4, r5, r6, r7, r8, r9, r10, r11, r12, r13⟩ : Rul) L)) : Option (List PV)) = RR
 simp only [JS, Xv, MC, std, xOf, PXb, rY hN hs h13]
 subst hres; simp only [B6]
 have nk := go (⟨r0, r1, r2, r3, r4, r5, r6, r7, r8, r9, r10, r11, r12, r13⟩ : Rul)
 generalize JJ (⟨r0, r1, r2, r3, r4, r5, r6, r7, r8, r9, r10, r11, r12, r13⟩ : Rul) = X at nk
 obtain ⟨⟨⟨m0, m1, m2, m3, m4, m5, m6, m7, m8, m9, m10, m11, m12, m13⟩, m14, m15, m16, m17, m18, m19, m20, m21, m22⟩, l⟩ := X
 simp only at nk
 simp only [PXb, PXc, PXk, Nat.reduceAdd]
 cases hl : l == 0
 case false => rfl
 have ok := nk hl
 have o1 := ok.rules
 have o2 := ok.fit
 have o3 := ok.len
 simp only at o1 o2 o3
 cases o1
 simp only [PXb, MC, oh hN o2 o3 hs h13 hL]
 rfl
theorem lI (L : Rows) : ∀ k i m, iLe 0 (C7 L k i m).2.1 = !((C7 L k i m).2.2 == 0) ∧ ((C7 L k i m).2.1 == -1) = ((C7 L k i m).2.2 == 0)
 | 0, _, _ => ⟨rfl, rfl⟩
 | k + 1, i, m => by
  unfold C7
  cases hq : (BJ i m (evR L i)).2 == 0 with
  | false =>
   simp only [Bool.not_false, cond_true, hq]
   exact ⟨by simp only [iLe, decide_eq_true_eq]; omega, beq_false_of_ne (by omega)⟩
  | true => exact lI L k (i + 1) _
theorem py (r : Rul) (L : Rows) : iLe 0 (B6 r L).2.1 = !((B6 r L).2.2 == 0) ∧ ((B6 r L).2.1 == -1) = ((B6 r L).2.2 == 0) := by
 unfold B6
 cases (JJ r).2 == 0 with
 | false => exact ⟨rfl, rfl⟩
 | true => exact lI L L.length 0 _
def Kj (L : Rows) (n : Int) : Rows := (L.take n.toNat).drop (0 : Int).toNat
theorem iw (L : Rows) (n : Int) : (Kj L n).length ≤ L.length := by
 unfold Kj
 rw [List.length_drop, List.length_take]
 omega
theorem qM {n : Int} {k : Nat} (h : (iLt n 0 || iLt (k : Int) n) = false) : iRg 0 n (k : Int) = true := by
 rw [Bool.or_eq_false_iff] at h
 simp only [iLt, decide_eq_false_iff_not] at h
 simp only [iRg, decide_eq_true_eq]
 omega
def atS (r : Rul) (L : Rows) (n : Int) : Mat × Int := cond (!(Az r == 0)) (au, Az r) (cond (iLt n 0 || iLt (L.length : Int) n) (au, 2) (cond (!((B6 r (Kj L n)).2.2 == 0)) (au, 10) ((B6 r (Kj L n)).1, 0)))
theorem sS {N : Nat} {r1 r2 r3 r4 r5 r6 r7 r9 r10 r11 r12 : Int} {r8 : Bool} {r0 : ByteArray} {r13 : Rows} {L : Rows} {n : Int} (hN : 2097152 < N) (hs : r0.size ≤ 1048576) (h13 : r13.length ≤ 1048576) (hL : L.length ≤ 1048576) : S7 N [.str r0, .int r1, .int r2, .int r3, .int r4, .int r5, .int r6, .int r7, .bool r8, .int r9, .int r10, .int r11, .int r12, .rows r13, .rows L, .int n] = some (Eo (atS (⟨r0, r1, r2, r3, r4, r5, r6, r7, r8, r9, r10, r11, r12, r13⟩ : Rul) L n)) := by
 show SN (std (Ha N) N) (xOf _) = _
 generalize hres : (some (Eo (atS (⟨r0, r1, r2, r3, r4, r5, r6, r7, r8, r9, r10, r11, r12, r13⟩ : Rul) L n)) : Option (List PV)) = RR
 simp only [SN, OT, XW, std, xOf, PXb, C1 hN hs]
 subst hres; simp only [atS]
 cases Az (⟨r0, r1, r2, r3, r4, r5, r6, r7, r8, r9, r10, r11, r12, r13⟩ : Rul) == 0
 case false => rfl
 cases hb : iLt n 0 || iLt (L.length : Int) n
 case true => rfl
 have hf := Nat.le_trans (iw L n) hL
 simp only [PXb, qM hb, OT]
 change (Option.bind (Ek N [.str r0, .int r1, .int r2, .int r3, .int r4, .int r5, .int r6, .int r7, .bool r8, .int r9, .int r10, .int r11, .int r12, .rows r13, .rows (Kj L n)]) _) = _
 rw [ke hN hs h13 hf]
 simp only [PXb, PXc, UW]
 cases (B6 (⟨r0, r1, r2, r3, r4, r5, r6, r7, r8, r9, r10, r11, r12, r13⟩ : Rul) (Kj L n)).2.2 == 0 <;> rfl
theorem rp {N : Nat} {r1 r2 r3 r4 r5 r6 r7 r9 r10 r11 r12 : Int} {r8 : Bool} {r0 : ByteArray} {r13 : Rows} {L : Rows} {n : Int} (hN : 2097152 < N) (hs : r0.size ≤ 1048576) (h13 : r13.length ≤ 1048576) (hL : L.length ≤ 1048576) : Sg N [.str r0, .int r1, .int r2, .int r3, .int r4, .int r5, .int r6, .int r7, .bool r8, .int r9, .int r10, .int r11, .int r12, .rows r13, .rows L, .int n] = some (Eo (atS (⟨r0, r1, r2, r3, r4, r5, r6, r7, r8, r9, r10, r11, r12, r13⟩ : Rul) L n)) := by
 show Sa (std (HN N) N) (xOf _) = _
 generalize hres : (some (Eo (atS (⟨r0, r1, r2, r3, r4, r5, r6, r7, r8, r9, r10, r11, r12, r13⟩ : Rul) L n)) : Option (List PV)) = RR
 simp only [Sa, OX, aA, std, xOf, PXb, EF hN hs]
 subst hres; simp only [atS]
 cases Az (⟨r0, r1, r2, r3, r4, r5, r6, r7, r8, r9, r10, r11, r12, r13⟩ : Rul) == 0
 case false => rfl
 cases hb : iLt n 0 || iLt (L.length : Int) n
 case true => rfl
 have hf := Nat.le_trans (iw L n) hL
 simp only [PXb, qM hb, OX]
 change (Option.bind (Gx N [.str r0, .int r1, .int r2, .int r3, .int r4, .int r5, .int r6, .int r7, .bool r8, .int r9, .int r10, .int r11, .int r12, .rows r13, .rows (Kj L n)]) _) = _
 rw [mi hN hs h13 hf]
 simp only [PXb, PXc, UW, (py (⟨r0, r1, r2, r3, r4, r5, r6, r7, r8, r9, r10, r11, r12, r13⟩ : Rul) (Kj L n)).1]
 cases (B6 (⟨r0, r1, r2, r3, r4, r5, r6, r7, r8, r9, r10, r11, r12, r13⟩ : Rul) (Kj L n)).2.2 == 0 <;> rfl
theorem jl {N : Nat} {r1 r2 r3 r4 r5 r6 r7 r9 r10 r11 r12 : Int} {r8 : Bool} {r0 : ByteArray} {r13 : Rows}  : Hv N [.str r0, .int r1, .int r2, .int r3, .int r4, .int r5, .int r6, .int r7, .bool r8, .int r9, .int r10, .int r11, .int r12, .rows r13] = some (Wh (⟨r0, r1, r2, r3, r4, r5, r6, r7, r8, r9, r10, r11, r12, r13⟩ : Rul)).ls := by
 show Ho (std (FT N) N) (xOf _) = _
 simp only [Ho, std, xOf, PXb, PXc, PXn, PXm, Nat.reduceAdd, Int.reduceBEq, o7 (show (0 : Int) ≤ 20 by omega), o7 (show (0 : Int) ≤ 10 by omega)]
 rfl
theorem rQ {N : Nat} {L : Rows}  : P8 N [.rows L] = some [.rows (cut L 70)] := by
 show QB (std (KV N) N) (xOf _) = _
 simp only [QB, std, xOf, PXb, PXc, PXn, PXm, Nat.reduceAdd, Int.reduceBEq, o7 (show (0 : Int) ≤ 70 by omega)]
 rfl
structure LogOk (m : Mat) : Prop where
 fit : C6 m.inns
 len : m.inns.length ≤ 5
 name : m.rules.name.size ≤ 1048576
 power : m.rules.power.length ≤ 1048576
theorem Xi : LogOk au := ⟨fun i hi => absurd hi (Nat.not_lt_zero i), Nat.zero_le _, Nat.zero_le _, Nat.zero_le _⟩
theorem oU {r : Rul} (L : Rows) : ∀ k i m, StepOk r m → StepOk r (C7 L k i m).1
 | 0, _, _, h => h
 | k + 1, i, m, h => by
  unfold C7
  cases (BJ i m (evR L i)).2 == 0 with
  | false => exact h
  | true => exact oU L k (i + 1) _ (dy h _ _)
theorem qf {r : Rul} (L : Rows) (hs : r.name.size ≤ 1048576) (hp : r.power.length ≤ 1048576) : LogOk (B6 r L).1 := by
 unfold B6
 cases h : (JJ r).2 == 0 with
 | false => exact Xi
 | true =>
  have := oU L L.length 0 _ (go r h)
  exact ⟨this.fit, this.len, by show (C7 _ _ _ _).1.rules.name.size ≤ _; rw [this.rules]; exact hs, by show (C7 _ _ _ _).1.rules.power.length ≤ _; rw [this.rules]; exact hp⟩
theorem ul {r : Rul} (L : Rows) (n : Int) (hs : r.name.size ≤ 1048576) (hp : r.power.length ≤ 1048576) : LogOk (atS r L n).1 := by
 unfold atS
 cases Az r == 0 with
 | false => exact Xi
 | true =>
  cases iLt n 0 || iLt (L.length : Int) n with
  | true => exact Xi
  | false =>
   cases (B6 r (Kj L n)).2.2 == 0 with
   | false => exact Xi
   | true => exact qf _ hs hp
theorem mw {N : Nat} {r1 r2 r3 r4 r5 r6 r7 r9 r10 r11 r12 : Int} {r8 : Bool} {r0 : ByteArray} {r13 : Rows} {L : Rows} {n : Int} (ha : IL N [] = some [.bool true]) (hN : 2097152 < N) (hs : r0.size ≤ 1048576) : Kh N [.str r0, .int r1, .int r2, .int r3, .int r4, .int r5, .int r6, .int r7, .bool r8, .int r9, .int r10, .int r11, .int r12, .rows r13, .rows L, .int n] = some [.bool true] := by
 show Kv (std (Bl N) N) (xOf _) = _
 have nn := lY (⟨r0, r1, r2, r3, r4, r5, r6, r7, r8, r9, r10, r11, r12, r13⟩ : Rul) hs
 have p := jd (⟨r0, r1, r2, r3, r4, r5, r6, r7, r8, r9, r10, r11, r12, r13⟩ : Rul)
 have l : (cut L 70).length ≤ 1048576 := Nat.le_trans (rH L 70) (show 70 ≤ 1048576 by omega)
 have k := ul (r := Wh (⟨r0, r1, r2, r3, r4, r5, r6, r7, r8, r9, r10, r11, r12, r13⟩ : Rul)) (cut L 70) n nn p
 simp only [Kv, Vq, Tj, Yz, Xd, Z3, Z7, std, xOf, PXb, PXc, PXn, PXm, Nat.reduceAdd, Int.reduceBEq, ha, jl, rQ, Rul.ls, sS hN nn p l, rp hN nn p l, PXk, fo hN k.fit (Nat.le_trans k.len (show 5 ≤ 1000000 by omega)) k.power]
end Go.Px
end
