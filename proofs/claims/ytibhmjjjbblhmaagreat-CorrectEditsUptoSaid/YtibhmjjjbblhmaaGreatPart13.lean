/- Part 13. -/
import Derived.Test.YtibhmjjjbblhmaaGreatPart12
set_option linter.unusedVariables false
set_option linter.unusedSimpArgs false
section
namespace Go.Px
set_option maxRecDepth 100000
def lnx (xs : List Inn) : Nat := (IntKind.i64.wrap ((xs.length : Int) - 1)).toNat
def Bb (m : Mat) : Inn := inn m.inns (lnx m.inns)
theorem N6 {n : Nat} (h : ((n : Int) == 0) = false) (hl : n ≤ 1000000) : iIn (IntKind.i64.wrap ((n : Int) - 1)) (n : Int) = true := by
 rw [beq_eq_false_iff_ne] at h
 rw [DG (by omega) (by omega)]
 simp only [iIn, decide_eq_true_eq]; omega
theorem lB {xs : List Inn} (h : ((xs.length : Int) == 0) = false) (hl : xs.length ≤ 1000000) : lnx xs < xs.length := by
 rw [beq_eq_false_iff_ne] at h
 unfold lnx
 rw [DG (by omega) (by omega)]
 omega
def Yl (r : Rul) : Int := cond (r.overs == 0) 5 6
theorem J6 {N : Nat} {r1 r2 r3 r4 r5 r6 r7 r9 r10 r11 r12 : Int} {r8 : Bool} {r0 : ByteArray} {r13 : Rows}  : Bp N [.str r0, .int r1, .int r2, .int r3, .int r4, .int r5, .int r6, .int r7, .bool r8, .int r9, .int r10, .int r11, .int r12, .rows r13] = some [.int (Yl (⟨r0, r1, r2, r3, r4, r5, r6, r7, r8, r9, r10, r11, r12, r13⟩ : Rul))] := by
 show GW (std (Pl N) N) (xOf _) = _
 simp only [GW, std, xOf, PXb, PXc, PXn, PXm, Nat.reduceAdd, Int.reduceBEq, Yl]
theorem UQ {N : Nat} {m1 m2 m3 m4 m5 m6 m7 m9 m10 m11 m12 m14 m15 m18 m19 m20 m21 m22 : Int} {m8 m16 : Bool} {m0 : ByteArray} {m13 : Rows} {m17 : List Inn} (h : ((m17.length : Int) == 0) = false) (hl : m17.length ≤ 1000000) : DN N [.str m0, .int m1, .int m2, .int m3, .int m4, .int m5, .int m6, .int m7, .bool m8, .int m9, .int m10, .int m11, .int m12, .rows m13, .int m14, .int m15, .bool m16, .rows (AP m17), .int m18, .int m19, .int m20, .int m21, .int m22] = some (inn m17 (lnx m17)).ls := by
 show Oa (std (KR N) N) (xOf _) = _
 simp only [Oa, std, xOf, PXb, PXc, PXn, PXm, Nat.reduceAdd, Int.reduceBEq, PXi, N6 h hl, lnx]
def Zd (x : Int × Int × Int) : List PV := [.int x.1, .int x.2.1, .int x.2.2]
def Nb (m : Mat) : Int × Int × Int :=
  let n : Int := m.inns.length
  let most := IntKind.i64.wrap (2 * m.rules.innings)
  let x := Bb m
  cond (!Cu m || n == 0) (0, 0, 0) (cond (x.ending == 5) (Yl m.rules, 0, 0) (cond (x.ending == 0) (0, 0, 0)
    (cond (n == most && iLe x.target x.runs) (2, x.side, IntKind.i64.wrap (IntKind.i64.wrap (m.rules.side - 1) - x.wickets)) (cond (n == most && x.runs == IntKind.i64.wrap (x.target - 1)) (4, 0, 0)
      (cond (n == most) (1, Bo x.side, IntKind.i64.wrap (IntKind.i64.wrap (x.target - 1) - x.runs))
        (cond (n == 3 && iLt (BB m x.side) (BB m (Bo x.side))) (3, Bo x.side, IntKind.i64.wrap (BB m (Bo x.side) - BB m x.side)) (0, 0, 0)))))))
set_option maxHeartbeats 4000000 in
theorem lw {N : Nat} {m1 m2 m3 m4 m5 m6 m7 m9 m10 m11 m12 m14 m15 m18 m19 m20 m21 m22 : Int} {m8 m16 : Bool} {m0 : ByteArray} {m13 : Rows} {m17 : List Inn} (hf : DH m17) (hN : 2097152 < N) (hl : m17.length ≤ 1000000) (hs : m0.size ≤ 1048576) : GK N [.str m0, .int m1, .int m2, .int m3, .int m4, .int m5, .int m6, .int m7, .bool m8, .int m9, .int m10, .int m11, .int m12, .rows m13, .int m14, .int m15, .bool m16, .rows (AP m17), .int m18, .int m19, .int m20, .int m21, .int m22] = some (Zd (Nb (⟨⟨m0, m1, m2, m3, m4, m5, m6, m7, m8, m9, m10, m11, m12, m13⟩, m14, m15, m16, m17, m18, m19, m20, m21, m22⟩ : Mat))) := by
 show Jt (std (DS N) N) (xOf _) = _
 generalize hres : (some (Zd (Nb (⟨⟨m0, m1, m2, m3, m4, m5, m6, m7, m8, m9, m10, m11, m12, m13⟩, m14, m15, m16, m17, m18, m19, m20, m21, m22⟩ : Mat))) : Option (List PV)) = RR
 simp only [Jt, SM, SG, SF, Na, std, xOf, PXb, PXi, bZ hf hN hl hs, Iw, J6, So hN (show m17.length ≤ 1048576 by omega)]
 subst hres; simp only [Nb, Bb, lnx]
 cases hv : Cu (⟨⟨m0, m1, m2, m3, m4, m5, m6, m7, m8, m9, m10, m11, m12, m13⟩, m14, m15, m16, m17, m18, m19, m20, m21, m22⟩ : Mat)
 case false => rfl
 cases h0 : (m17.length : Int) == 0
 case true => rfl
 simp only [PXb, N6 h0 hl]
 generalize inn m17 (IntKind.i64.wrap ((m17.length : Int) - 1)).toNat = x
 cases x.ending == 5
 case true => rfl
 cases x.ending == 0
 case true => rfl
 cases (m17.length : Int) == IntKind.i64.wrap (2 * m2) <;> cases iLe x.target x.runs <;> cases x.runs == IntKind.i64.wrap (x.target - 1) <;> try rfl
 all_goals (cases (m17.length : Int) == 3 <;> try rfl)
 all_goals (simp only [PXb]; cases iLt (BB (⟨⟨m0, m1, m2, m3, m4, m5, m6, m7, m8, m9, m10, m11, m12, m13⟩, m14, m15, m16, m17, m18, m19, m20, m21, m22⟩ : Mat) x.side) (BB (⟨⟨m0, m1, m2, m3, m4, m5, m6, m7, m8, m9, m10, m11, m12, m13⟩, m14, m15, m16, m17, m18, m19, m20, m21, m22⟩ : Mat) (Bo x.side)) <;> rfl)
set_option maxHeartbeats 4000000 in
theorem o8 {N : Nat} {m1 m2 m3 m4 m5 m6 m7 m9 m10 m11 m12 m14 m15 m18 m19 m20 m21 m22 : Int} {m8 m16 : Bool} {m0 : ByteArray} {m13 : Rows} {m17 : List Inn} (hf : DH m17) (hN : 2097152 < N) (hl : m17.length ≤ 1000000) (hs : m0.size ≤ 1048576) : Iy N [.str m0, .int m1, .int m2, .int m3, .int m4, .int m5, .int m6, .int m7, .bool m8, .int m9, .int m10, .int m11, .int m12, .rows m13, .int m14, .int m15, .bool m16, .rows (AP m17), .int m18, .int m19, .int m20, .int m21, .int m22] = some (Zd (Nb (⟨⟨m0, m1, m2, m3, m4, m5, m6, m7, m8, m9, m10, m11, m12, m13⟩, m14, m15, m16, m17, m18, m19, m20, m21, m22⟩ : Mat))) := by
 show Ix (std (CJ N) N) (xOf _) = _
 generalize hres : (some (Zd (Nb (⟨⟨m0, m1, m2, m3, m4, m5, m6, m7, m8, m9, m10, m11, m12, m13⟩, m14, m15, m16, m17, m18, m19, m20, m21, m22⟩ : Mat))) : Option (List PV)) = RR
 simp only [Ix, Vu, L5, Le, Ld, std, xOf, PXb, PXi, XM hf hN hl hs, Gu, L1 hN (show m17.length ≤ 1048576 by omega)]
 subst hres; simp only [Nb, Bb]
 cases hv : Cu (⟨⟨m0, m1, m2, m3, m4, m5, m6, m7, m8, m9, m10, m11, m12, m13⟩, m14, m15, m16, m17, m18, m19, m20, m21, m22⟩ : Mat)
 case false => rfl
 cases h0 : (m17.length : Int) == 0
 case true => rfl
 simp only [PXb, PXm, L5, UQ h0 hl, Le, Ld, Gu, L1 hN (show m17.length ≤ 1048576 by omega)]
 generalize inn m17 (lnx m17) = x
 unfold Yl
 cases x.ending == 5 <;> cases m3 == 0 <;> try rfl
 all_goals (cases x.ending == 0 <;> try rfl)
 all_goals (cases (m17.length : Int) == IntKind.i64.wrap (2 * m2) <;> cases iLe x.target x.runs <;> cases x.runs == IntKind.i64.wrap (x.target - 1) <;> try rfl)
 all_goals (cases (m17.length : Int) == 3 <;> try rfl)
 all_goals (simp only [PXb]; cases iLt (BB (⟨⟨m0, m1, m2, m3, m4, m5, m6, m7, m8, m9, m10, m11, m12, m13⟩, m14, m15, m16, m17, m18, m19, m20, m21, m22⟩ : Mat) x.side) (BB (⟨⟨m0, m1, m2, m3, m4, m5, m6, m7, m8, m9, m10, m11, m12, m13⟩, m14, m15, m16, m17, m18, m19, m20, m21, m22⟩ : Mat) (Bo x.side)) <;> rfl)
theorem rc : ∀ (n k : Nat) (f : Nat → Nat), (∀ i, i < k → 1 ≤ f i ∧ f i ≤ n) → (∀ i j, i < j → j < k → f i ≠ f j) → k ≤ n
 | 0, k, f, h, _ => by
  rcases Nat.eq_zero_or_pos k with e | e
  ·omega
  ·have := h 0 e; omega
 | n + 1, 0, f, _, _ => by omega
 | n + 1, k + 1, f, h, hi => by
  by_cases he : ∃ j, j < k + 1 ∧ f j = n + 1
  ·obtain ⟨j, hj, hfj⟩ := he
   have := rc n k (fun i => if i = j then f k else f i) (fun i hik => by
    show 1 ≤ (if i = j then f k else f i) ∧ (if i = j then f k else f i) ≤ n
    by_cases e : i = j
    ·rw [if_pos e]
     have h1 := h k (by omega)
     have : f k ≠ f j := fun e2 => hi j k (by omega) (by omega) e2.symm
     omega
    ·rw [if_neg e]
     have h1 := h i (by omega)
     have : f i ≠ f j := by
      rcases Nat.lt_or_gt_of_ne e with e2 | e2
      ·exact hi i j e2 hj
      ·exact fun e3 => hi j i e2 (by omega) e3.symm
     omega) (fun a b hab hb => by
    show (if a = j then f k else f a) ≠ (if b = j then f k else f b)
    by_cases e1 : a = j
    ·have e2 : b ≠ j := by omega
     rw [if_pos e1, if_neg e2]
     exact fun e3 => hi b k hb (by omega) e3.symm
    ·rw [if_neg e1]
     by_cases e2 : b = j
     ·rw [if_pos e2]; exact hi a k (by omega) (by omega)
     ·rw [if_neg e2]; exact hi a b hab (by omega))
   omega
  ·have := rc n (k + 1) f (fun i hik => by
    have h1 := h i hik
    have : f i ≠ n + 1 := fun e => he ⟨i, hik, e⟩
    omega) hi
   omega
theorem ph {L : Rows} {n : Int} (h : GH L n = true) (hn : 0 ≤ n) : (L.length : Int) ≤ n := by
 unfold GH at h
 rw [Bool.not_eq_true', K1] at h
 have hb : ∀ i, i < L.length → 1 ≤ atI L i 0 ∧ atI L i 0 ≤ n := fun i hi => by
  have := h i (by omega) (by omega)
  unfold LR at this
  rw [Bool.or_eq_false_iff, Bool.not_eq_false', fP] at this
  exact this.1
 have := rc n.toNat L.length (fun i => (atI L i 0).toNat) (fun i hi => by have := hb i hi; show 1 ≤ (atI L i 0).toNat ∧ (atI L i 0).toNat ≤ n.toNat; omega) (fun i j hij hj => by
  show (atI L i 0).toNat ≠ (atI L j 0).toNat
  have h1 := hb i (by omega)
  have h2 := hb j hj
  have h3 := h j (by omega) (by omega)
  unfold LR at h3
  rw [Bool.or_eq_false_iff] at h3
  have h4 := K1.1 h3.2 i (by omega) (by omega)
  rw [beq_eq_false_iff_ne] at h4
  omega)
 omega
theorem T4 {r : Rul} {s : Inn} (h : H3 r s = true) : s.bowlers.length ≤ 11 ∧ s.before.length ≤ 11 ∧ s.Fit := by
 have ok := w4.1 h
 have hs := yf ok
 have h1 := ph ok.dw (by omega)
 have h2 := ph ok.df (by omega)
 have h3 := ok.lb
 have h4 := ok.ld
 have h5 := ok.lz
 exact ⟨by omega, by omega, by omega, by omega, by omega, by omega, by omega⟩
end Go.Px
end
section
namespace Go.Px
set_option maxRecDepth 100000
def ZV (m : Mat) (e : Ev) : Mat × Int :=
  let sd := D5 m (m.inns.length : Int)
  let b := Bz m.rules sd (HW m sd) (cond (sd == 2) m.pen2 m.pen1)
  let t := C2 m.rules b.1 e
  cond (!(b.2 == 0)) (m, 1) (cond (!(t.2 == 0)) (m, t.2)
    ({ m with stage := 3, inns := m.inns ++ [t.1], pen1 := cond (sd == 1) 0 m.pen1, pen2 := cond (sd == 2) 0 m.pen2 }, 0))
def UD (xs : List Inn) (sd : Int) : Nat → Option Nat
 | 0 => none
 | k + 1 => cond ((inn xs k).side == sd) (some k) (UD xs sd k)
def MQ (m : Mat) (sd : Int) : Mat := match UD m.inns sd m.inns.length with
 | some k => { m with inns := m.inns.set k (Pg (inn m.inns k)) }
 | none => { m with pen1 := cond (sd == 1) (IntKind.i64.wrap (m.pen1 + 5)) m.pen1, pen2 := cond (sd == 2) (IntKind.i64.wrap (m.pen2 + 5)) m.pen2 }
def fX (m : Mat) (e : Ev) : Mat × Int :=
 let t := C2 m.rules (Bb m) e
 cond (!(t.2 == 0)) (m, t.2) (cond (e.kind == 13 && !(e.side == t.1.side)) (MQ { m with inns := m.inns.set (lnx m.inns) t.1 } e.side) { m with inns := m.inns.set (lnx m.inns) t.1 }, 0)
def pW (m : Mat) : Mat := { m with inns := cond (m.stage == 3) (m.inns.set (lnx m.inns) { Bb m with ending := 5 }) m.inns, stage := 5, win := Yl m.rules, wside := 0, margin := 0 }
def IU (m : Mat) (e : Ev) : Mat × Int :=
  cond (e.kind == 1) (cond (!(m.stage == 1)) (m, 1) ({ m with first := cond e.yes e.side (Bo e.side), stage := 2 }, 0))
    (cond (e.kind == 2) (cond (!(m.stage == 2)) (m, 1) (ZV m e))
      (cond (e.kind == 12) (cond (!(m.stage == 4)) (m, 1) (cond (!(e.side == m.first)) (m, 2) ({ m with follow := e.yes, stage := 2 }, 0)))
        (cond (e.kind == 16) (pW m, 0) (cond (!(m.stage == 3)) (m, 1) (fX m e)))))
def QZ (m : Mat) : Mat :=
  let n : Int := m.inns.length
  let sd := (Bb m).side
  let o := Nb { m with stage := 5 }
  cond (n == IntKind.i64.wrap (2 * m.rules.innings) || (n == 3 && iLt (BB m sd) (BB m (Bo sd)))) { m with stage := 5, win := o.1, wside := o.2.1, margin := o.2.2 }
    (cond (n == 2 && iLt 0 m.rules.followon && iLe m.rules.followon (IntKind.i64.wrap (BB m m.first - BB m (Bo m.first)))) { m with stage := 4 } { m with stage := 2 })
def Pp (m : Mat) : Mat := cond (m.stage == 3 && !((Bb m).ending == 0)) (QZ m) m
def CY (m : Mat) (e : Ev) : Mat × Int :=
 cond (!Cu m || !(evS e == 0)) (m, 1) (cond (m.stage == 5) (m, 26) (cond (!((IU m e).2 == 0)) (m, (IU m e).2) (Pp (IU m e).1, 0)))
theorem bind_ok {X : Option (List PV)} {r : List PV} {k : List PV → Option (List PV)} {g : Option (List PV)} (h : X = some r) (hk : k r = g) : X.bind k = g := by rw [h]; exact hk
structure MatOk (m : Mat) : Prop where
 code : A4 m.rules = 0
 len : m.inns.length ≤ 4
 innv : ∀ i, i < m.inns.length → H3 m.rules (inn m.inns i) = true ∧ (inn m.inns i).side = D5 m (i : Int)
 begun : (m.stage == 3) = true → ((m.inns.length : Int) == 0) = false
 toss : (m.stage == 2) = true → m.first = 1 ∨ m.first = 2
 room : (m.stage == 2) = true → (m.inns.length : Int) < 2 * m.rules.innings
 most : IntKind.i64.wrap (2 * m.rules.innings) = 2 * m.rules.innings ∧ (m.inns.length : Int) ≤ 2 * m.rules.innings
theorem dr {m : Mat} (h : Cu m = true) : MatOk m := by
 unfold Cu pS at h
 simp only [Bool.and_eq_true, Bool.not_eq_true'] at h
 obtain ⟨⟨h1, h2, h3, h4, h5, h6, h7, h8, h9, h10⟩, h11, h12⟩ := h
 have hc := beq_iff_eq.1 h1
 have rk := (LV hc).innings
 have e2 : IntKind.i64.wrap (2 * m.rules.innings) = 2 * m.rules.innings := DG (by omega) (by omega)
 rw [e2] at h5 h8
 rw [Bool.or_eq_false_iff, Bool.or_eq_false_iff] at h5
 have hn := h5.2
 have hf1 := h5.1.1
 have hf2 := h5.1.2
 simp only [iLt, decide_eq_false_iff_not] at hn hf1 hf2
 refine ⟨hc, by omega, fun i hi => ?_, fun hs => ?_, fun hs => ?_, fun hs => ?_, e2, by omega⟩
 ·have := K1.1 h11 i (by omega) (by omega)
  unfold J5 at this
  rw [Bool.or_eq_false_iff, Bool.not_eq_false', Bool.not_eq_false', beq_iff_eq] at this
  exact this
 ·unfold YO at h12
  rw [hs, Bool.and_eq_true] at h12
  have := h12.2
  simp only [iLt, Bool.not_true, Bool.false_or, decide_eq_true_eq] at this
  exact beq_false_of_ne (by omega)
 ·rw [beq_iff_eq.1 hs] at h6
  cases h0 : m.first == 0 with
  | true => rw [h0] at h6; simp at h6
  | false =>
   rw [beq_eq_false_iff_ne] at h0
   omega
 ·rw [hs, Bool.true_and, beq_eq_false_iff_ne] at h8
  omega
theorem rZ {m : Mat} (h : m.first = 1 ∨ m.first = 2) (i : Int) : D5 m i = 1 ∨ D5 m i = 2 := by
 unfold D5
 cases cond (m.follow && iLe 2 i) (i == 2) (i.tmod 2 == 1) with
 | false => exact h
 | true => rcases h with h | h <;> rw [h] <;> decide
theorem wS {m : Mat} (h : MatOk m) : DH m.inns := fun i hi => (T4 (h.innv i hi).1).2.2
theorem aX {F : (List Aj → Option (List PV)) → List PV → Option (List PV)} {len : Nat} (enc : Nat → List Aj) (ans : Nat → Option (List PV))
    (h0 : ∀ self, F self ((enc len).map Leaf.pv) = some [.int 1]) (h1 : ∀ i self, i < len → F self ((enc i).map Leaf.pv) = match ans i with | some r => some (.int 0 :: r) | none => self (enc (i + 1))) :
    ∀ (k i n : Nat), i + k = len → k < n → Ie F n ((enc i).map Leaf.pv) = some (T1 (CG ans k i))
  | 0, i, n, hk, hn => by
    obtain ⟨n, rfl⟩ : ∃ m, n = m + 1 := ⟨n - 1, by omega⟩
    obtain rfl : i = len := by omega
    exact h0 _
  | k + 1, i, n, hk, hn => by
    obtain ⟨n, rfl⟩ : ∃ m, n = m + 1 := ⟨n - 1, by omega⟩
    show F _ _ = _
    rw [h1 i _ (by omega)]
    simp only [CG]
    cases ans i with
    | some r => rfl
    | none => exact aX enc ans h0 h1 k (i + 1) n (by omega) (by omega)
theorem mT (ys : List Inn) (sd : Int) (g : Nat → List PV) (n : Nat) : ∀ k, k ≤ n → CG (fun j => cond ((inn ys (n - 1 - j)).side == sd) (some (g (n - 1 - j))) none) k (n - k) = (UD ys sd k).map g
 | 0, _ => rfl
 | k + 1, h => by
  have ih := mT ys sd g n k (by omega)
  have e : n - 1 - (n - (k + 1)) = k := by omega
  have e2 : n - (k + 1) + 1 = n - k := by omega
  simp only [CG, UD, e, e2, ih]
  cases (inn ys k).side == sd <;> rfl
theorem yF (xs : List Inn) (k : Nat) (s : Inn) (i : Nat) (hi : i < xs.length) : inn (xs.set k s) i = (if k = i then s else inn xs i) := by
 rw [Ur, Ur, List.getElem?_set]
 by_cases h : k = i
 ·subst h
  rw [if_pos rfl, if_pos rfl, if_pos hi]
 ·rw [if_neg h, if_neg h]
theorem Vc {xs : List Inn} {s : Inn} (k : Nat) (h : DH xs) (hs : s.Fit) : DH (xs.set k s) := fun i hi => by
 rw [List.length_set] at hi
 rw [yF xs k s i hi]
 by_cases e : k = i
 ·rw [if_pos e]; exact hs
 ·rw [if_neg e]; exact h i hi
theorem oF {e : Ev} (h : (evS e == 0) = true) (hk : (e.kind == 13) = true) : e.side = 1 ∨ e.side = 2 := by
 have h0 := fp h
 rw [beq_iff_eq] at hk
 unfold evS at h
 rw [h0] at h
 cases h1 : me e with
 | true => rw [h1] at h; cases h
 | false =>
  cases h2 : dS e with
  | true => rw [h1, h2] at h; cases h
  | false =>
   unfold dS at h2
   rw [Bool.or_eq_false_iff] at h2
   have h3 := h2.1
   rw [hk, show uS 13 = true from rfl, Bool.and_true] at h3
   simp only [btw, iLe, Bool.not_eq_false', Bool.and_eq_true, decide_eq_true_eq] at h3
   omega
theorem yZ (xs : List Inn) (s : Inn) (i : Nat) (hi : i < xs.length + 1) : inn (xs ++ [s]) i = (if i < xs.length then inn xs i else s) := by
 rw [Ur, Ur]
 by_cases h : i < xs.length
 ·rw [if_pos h, List.getElem?_append_left h]
 ·have : i = xs.length := by omega
  subst this
  rw [if_neg h, List.getElem?_append_right (Nat.le_refl _), Nat.sub_self]
  rfl
theorem xn {xs : List Inn} {s : Inn} (h : DH xs) (hs : s.Fit) : DH (xs ++ [s]) := fun i hi => by
 rw [List.length_append] at hi
 rw [yZ xs s i hi]
 by_cases e : i < xs.length
 ·rw [if_pos e]; exact h i e
 ·rw [if_neg e]; exact hs
theorem mN (r : Rul) (a b c : Int) (e : Ev) : (C2 r (Bz r a b c).1 e).1.Fit := by
 obtain ⟨f, h1, h2⟩ := II r a b c
 exact L6 (WU r _ e) f (by rw [h1, h2]; exact Nat.zero_le _)
structure ActOk (m : Mat) (x : Mat × Int) : Prop where
 rules : x.1.rules = m.rules
 fit : DH x.1.inns
 len : x.1.inns.length ≤ 5
 some' : (x.2 == 0) = true → (x.1.stage == 3) = true → ((x.1.inns.length : Int) == 0) = false
theorem A_c {m : Mat} (b : Bool) (x y : Mat × Int) (hx : ActOk m x) (hy : ActOk m y) : ActOk m (cond b x y) := by cases b <;> assumption
theorem xm {m : Mat} (sd : Int) (hf : DH m.inns) : (MQ m sd).rules = m.rules ∧ DH (MQ m sd).inns ∧ (MQ m sd).inns.length = m.inns.length ∧ (MQ m sd).stage = m.stage := by
 unfold MQ
 cases h : UD m.inns sd m.inns.length with
 | none => exact ⟨rfl, hf, rfl, rfl⟩
 | some k =>
  have hk : k < m.inns.length := by
   have : ∀ n, UD m.inns sd n = some k → k < n := by
    intro n
    induction n with
    | zero => intro h; cases h
    | succ n ih =>
     intro h
     unfold UD at h
     cases hq : (inn m.inns n).side == sd with
     | true => rw [hq] at h; cases h; omega
     | false => rw [hq] at h; have := ih h; omega
   exact this _ h
  exact ⟨rfl, Vc k hf (yo (hf k hk)), List.length_set, rfl⟩
theorem rf {m : Mat} (ok : MatOk m) (e : Ev) : ActOk m (IU m e) := by
 have hf := wS ok
 have hl := ok.len
 have self : ∀ n : Int, (n == 0) = false → ActOk m (m, n) := fun n hn => ⟨rfl, hf, by show m.inns.length ≤ 5; omega, fun h => by rw [hn] at h; cases h⟩
 unfold IU
 refine A_c _ _ _ (A_c _ _ _ (self 1 rfl) ⟨rfl, hf, by show m.inns.length ≤ 5; omega, fun _ h => by cases h⟩) (A_c _ _ _ ?_ (A_c _ _ _ ?_ (A_c _ _ _ ?_ ?_)))
 ·refine A_c _ _ _ (self 1 rfl) ?_
  unfold ZV
  refine A_c _ _ _ (self 1 rfl) ?_
  cases hq : (C2 m.rules (Bz m.rules (D5 m (m.inns.length : Int)) (HW m (D5 m (m.inns.length : Int))) (cond (D5 m (m.inns.length : Int) == 2) m.pen2 m.pen1)).1 e).2 == 0 with
  | false =>
   simp only [Bool.not_false, cond_true]
   exact self _ hq
  | true =>
   simp only [Bool.not_true, cond_false]
   exact ⟨rfl, xn hf (mN _ _ _ _ e), by simp; omega, fun _ _ => by
    show ((((m.inns ++ [_]).length : Nat) : Int) == 0) = false
    rw [List.length_append]
    exact beq_false_of_ne (by simp; omega)⟩
 ·exact A_c _ _ _ (self 1 rfl) (A_c _ _ _ (self 2 rfl) ⟨rfl, hf, by show m.inns.length ≤ 5; omega, fun _ h => by cases h⟩)
 ·unfold pW
  cases h3 : m.stage == 3 with
  | false => exact ⟨rfl, hf, by show m.inns.length ≤ 5; omega, fun _ h => by cases h⟩
  | true =>
   have h0 := ok.begun h3
   have fl := hf (lnx m.inns) (lB h0 (by omega))
   exact ⟨rfl, Vc _ hf ⟨fl.bt, fl.bw, fl.bf, fl.bd, fl.sb⟩, by show (m.inns.set _ _).length ≤ 5; rw [List.length_set]; omega, fun _ h => by cases h⟩
 ·cases h3 : m.stage == 3 with
  | false => exact self 1 rfl
  | true =>
   have h0 := ok.begun h3
   have lv := T4 (ok.innv (lnx m.inns) (lB h0 (by omega))).1
   have h1 := lv.1
   have h2 := lv.2.1
   have ft := L6 (WU m.rules (Bb m) e) lv.2.2 (show (inn m.inns (lnx m.inns)).before.length + (inn m.inns (lnx m.inns)).bowlers.length ≤ 1048575 by omega)
   simp only [Bool.not_true, cond_false, fX]
   cases hq : (C2 m.rules (Bb m) e).2 == 0 with
   | false =>
    simp only [Bool.not_false, Bool.not_true, cond_true, cond_false]
    exact self _ hq
   | true =>
    have fs := Vc (lnx m.inns) hf ft
    have ln : (m.inns.set (lnx m.inns) (C2 m.rules (Bb m) e).1).length = m.inns.length := List.length_set
    simp only [Bool.not_true, cond_false]
    cases (e.kind == 13 && !(e.side == (C2 m.rules (Bb m) e).1.side)) with
    | false =>
     exact ⟨rfl, fs, by show (m.inns.set _ _).length ≤ 5; omega, fun _ _ => by
      show ((((m.inns.set _ _).length : Nat) : Int) == 0) = false
      rw [ln]; exact h0⟩
    | true =>
     obtain ⟨a1, a2, a3, a4⟩ := xm (m := { m with inns := m.inns.set (lnx m.inns) (C2 m.rules (Bb m) e).1 }) e.side fs
     exact ⟨a1, a2, by show (MQ _ _).inns.length ≤ 5; rw [a3]; show (m.inns.set _ _).length ≤ 5; omega, fun _ _ => by
      show ((((MQ _ _).inns.length : Nat) : Int) == 0) = false
      rw [a3]
      show ((((m.inns.set _ _).length : Nat) : Int) == 0) = false
      rw [ln]; exact h0⟩
end Go.Px
end
section
namespace Go.Px
set_option maxRecDepth 100000
set_option maxHeartbeats 8000000 in
theorem Uy {N : Nat} {m1 m2 m3 m4 m5 m6 m7 m9 m10 m11 m12 m14 m15 m18 m19 m20 m21 m22 : Int} {m8 m16 : Bool} {m0 : ByteArray} {m13 : Rows} {m17 : List Inn} {e0 e1 e2 e3 e5 e6 e7 e8 e9 e10 e11 e13 e14 e15 e16 e18 : Int} {e4 e12 e17 : Bool} (hN : 2097152 < N) (hf : DH m17) (hl : m17.length ≤ 1000000) (hs : m0.size ≤ 1048576) (h13 : m13.length ≤ 1048576) : FN N [.str m0, .int m1, .int m2, .int m3, .int m4, .int m5, .int m6, .int m7, .bool m8, .int m9, .int m10, .int m11, .int m12, .rows m13, .int m14, .int m15, .bool m16, .rows (AP m17), .int m18, .int m19, .int m20, .int m21, .int m22, .int e0, .int e1, .int e2, .int e3, .bool e4, .int e5, .int e6, .int e7, .int e8, .int e9, .int e10, .int e11, .bool e12, .int e13, .int e14, .int e15, .int e16, .bool e17, .int e18] = some (G7 (CY (⟨⟨m0, m1, m2, m3, m4, m5, m6, m7, m8, m9, m10, m11, m12, m13⟩, m14, m15, m16, m17, m18, m19, m20, m21, m22⟩ : Mat) (⟨e0, e1, e2, e3, e4, e5, e6, ⟨e7, e8, e9, e10, e11, e12, e13, e14, e15, e16, e17, e18⟩⟩ : Ev))) := by
 show Py (std (A7 N) N) (xOf _) = _
 generalize hres : (some (G7 (CY (⟨⟨m0, m1, m2, m3, m4, m5, m6, m7, m8, m9, m10, m11, m12, m13⟩, m14, m15, m16, m17, m18, m19, m20, m21, m22⟩ : Mat) (⟨e0, e1, e2, e3, e4, e5, e6, ⟨e7, e8, e9, e10, e11, e12, e13, e14, e15, e16, e17, e18⟩⟩ : Ev))) : Option (List PV)) = RR
 simp only [Py, Vr, U9, Uf, Fd, Fi, Kh, JH, Ea, E2, DB, Db, Hc, std, xOf, PXb, bZ hf hN hl hs, bX hN, bn hf hN hl h13]
 subst hres; simp only [CY]
 cases hv : Cu (⟨⟨m0, m1, m2, m3, m4, m5, m6, m7, m8, m9, m10, m11, m12, m13⟩, m14, m15, m16, m17, m18, m19, m20, m21, m22⟩ : Mat)
 case false => rfl
 cases he : evS (⟨e0, e1, e2, e3, e4, e5, e6, ⟨e7, e8, e9, e10, e11, e12, e13, e14, e15, e16, e17, e18⟩⟩ : Ev) == 0
 case false => simp only [PXb, he]; rfl
 simp only [PXb, he]
 cases h5 : m14 == 5
 case true => rfl
 simp only [PXb]
 have ok := dr hv
 refine bind_ok (r := .int (IU (⟨⟨m0, m1, m2, m3, m4, m5, m6, m7, m8, m9, m10, m11, m12, m13⟩, m14, m15, m16, m17, m18, m19, m20, m21, m22⟩ : Mat) (⟨e0, e1, e2, e3, e4, e5, e6, ⟨e7, e8, e9, e10, e11, e12, e13, e14, e15, e16, e17, e18⟩⟩ : Ev)).2 :: (IU (⟨⟨m0, m1, m2, m3, m4, m5, m6, m7, m8, m9, m10, m11, m12, m13⟩, m14, m15, m16, m17, m18, m19, m20, m21, m22⟩ : Mat) (⟨e0, e1, e2, e3, e4, e5, e6, ⟨e7, e8, e9, e10, e11, e12, e13, e14, e15, e16, e17, e18⟩⟩ : Ev)).1.ls) ?_ ?_
 ·unfold IU
  cases hk1 : e0 == 1
  case true =>
   simp only [PXb, Fi, Iw]
   cases m14 == 1 <;> cases e4 <;> rfl
  cases hk2 : e0 == 2
  case true =>
   simp only [PXb]
   cases hs2 : m14 == 2
   case false => rfl
   have hl2 : m17.length ≤ 1048576 := by omega
   have h304 : iSm ((m17.length + 1 : Nat) : Int) 304 = true := Dd (by omega) (by omega)
   have fb := fun a b c => (II (⟨⟨m0, m1, m2, m3, m4, m5, m6, m7, m8, m9, m10, m11, m12, m13⟩, m14, m15, m16, m17, m18, m19, m20, m21, m22⟩ : Mat).rules a b c).1
   have wb : ∀ a b c, (Bz (⟨⟨m0, m1, m2, m3, m4, m5, m6, m7, m8, m9, m10, m11, m12, m13⟩, m14, m15, m16, m17, m18, m19, m20, m21, m22⟩ : Mat).rules a b c).1.before.length + (Bz (⟨⟨m0, m1, m2, m3, m4, m5, m6, m7, m8, m9, m10, m11, m12, m13⟩, m14, m15, m16, m17, m18, m19, m20, m21, m22⟩ : Mat).rules a b c).1.bowlers.length ≤ 1000000 := fun a b c => by
    rw [(II (⟨⟨m0, m1, m2, m3, m4, m5, m6, m7, m8, m9, m10, m11, m12, m13⟩, m14, m15, m16, m17, m18, m19, m20, m21, m22⟩ : Mat).rules a b c).2.1, (II (⟨⟨m0, m1, m2, m3, m4, m5, m6, m7, m8, m9, m10, m11, m12, m13⟩, m14, m15, m16, m17, m18, m19, m20, m21, m22⟩ : Mat).rules a b c).2.2]
    exact Nat.zero_le _
   rcases rZ (m := (⟨⟨m0, m1, m2, m3, m4, m5, m6, m7, m8, m9, m10, m11, m12, m13⟩, m14, m15, m16, m17, m18, m19, m20, m21, m22⟩ : Mat)) (ok.toss hs2) (m17.length : Int) with ho | ho
   ·simp only [PXb, PXc, Cc, VO, Nat.reduceAdd, Int.reduceBEq, PXi, PXr, Inn.eta, AZ, List.length_append, List.length_cons, List.length_nil, h304, ZV, Fd, E2, Ea, DB, Si, ZB hN hl2, WL hN hs, Q2 (fb _ _ _) (wb _ _ _) hN hs h13, ho, wr1, wr2, Xn, Xr]
    cases (Bz (⟨⟨m0, m1, m2, m3, m4, m5, m6, m7, m8, m9, m10, m11, m12, m13⟩, m14, m15, m16, m17, m18, m19, m20, m21, m22⟩ : Mat).rules 1 (HW (⟨⟨m0, m1, m2, m3, m4, m5, m6, m7, m8, m9, m10, m11, m12, m13⟩, m14, m15, m16, m17, m18, m19, m20, m21, m22⟩ : Mat) 1) m18).2 == 0 <;> try rfl
    cases (C2 (⟨⟨m0, m1, m2, m3, m4, m5, m6, m7, m8, m9, m10, m11, m12, m13⟩, m14, m15, m16, m17, m18, m19, m20, m21, m22⟩ : Mat).rules (Bz (⟨⟨m0, m1, m2, m3, m4, m5, m6, m7, m8, m9, m10, m11, m12, m13⟩, m14, m15, m16, m17, m18, m19, m20, m21, m22⟩ : Mat).rules 1 (HW (⟨⟨m0, m1, m2, m3, m4, m5, m6, m7, m8, m9, m10, m11, m12, m13⟩, m14, m15, m16, m17, m18, m19, m20, m21, m22⟩ : Mat) 1) m18).1 (⟨e0, e1, e2, e3, e4, e5, e6, ⟨e7, e8, e9, e10, e11, e12, e13, e14, e15, e16, e17, e18⟩⟩ : Ev)).2 == 0 <;> rfl
   ·simp only [PXb, PXc, Cc, VO, Nat.reduceAdd, Int.reduceBEq, PXi, PXr, Inn.eta, AZ, List.length_append, List.length_cons, List.length_nil, h304, ZV, Fd, E2, Ea, DB, Si, ZB hN hl2, WL hN hs, Q2 (fb _ _ _) (wb _ _ _) hN hs h13, ho, wr1, wr2, Xn, Xr]
    cases (Bz (⟨⟨m0, m1, m2, m3, m4, m5, m6, m7, m8, m9, m10, m11, m12, m13⟩, m14, m15, m16, m17, m18, m19, m20, m21, m22⟩ : Mat).rules 2 (HW (⟨⟨m0, m1, m2, m3, m4, m5, m6, m7, m8, m9, m10, m11, m12, m13⟩, m14, m15, m16, m17, m18, m19, m20, m21, m22⟩ : Mat) 2) m19).2 == 0 <;> try rfl
    cases (C2 (⟨⟨m0, m1, m2, m3, m4, m5, m6, m7, m8, m9, m10, m11, m12, m13⟩, m14, m15, m16, m17, m18, m19, m20, m21, m22⟩ : Mat).rules (Bz (⟨⟨m0, m1, m2, m3, m4, m5, m6, m7, m8, m9, m10, m11, m12, m13⟩, m14, m15, m16, m17, m18, m19, m20, m21, m22⟩ : Mat).rules 2 (HW (⟨⟨m0, m1, m2, m3, m4, m5, m6, m7, m8, m9, m10, m11, m12, m13⟩, m14, m15, m16, m17, m18, m19, m20, m21, m22⟩ : Mat) 2) m19).1 (⟨e0, e1, e2, e3, e4, e5, e6, ⟨e7, e8, e9, e10, e11, e12, e13, e14, e15, e16, e17, e18⟩⟩ : Ev)).2 == 0 <;> rfl
  cases hk3 : e0 == 12
  case true =>
   simp only [PXb]
   cases m14 == 4 <;> cases e1 == m15 <;> rfl
  cases hk4 : e0 == 16
  case true =>
   simp only [PXb, pW]
   cases h3 : m14 == 3
   case false => simp only [PXb, PXc, PXi, PXr, Cc, Nat.reduceAdd, Db, J6]; rfl
   simp only [PXb, PXc, PXi, PXr, Cc, Nat.reduceAdd, N6 (ok.begun h3) hl, Db, J6]
   rfl
  simp only [PXb]
  cases h3 : m14 == 3
  case false => rfl
  have h0 := ok.begun h3
  have lv := T4 (ok.innv (lnx m17) (lB h0 hl)).1
  have fl : (inn m17 (IntKind.i64.wrap ((m17.length : Int) - 1)).toNat).Fit := lv.2.2
  have wl : (inn m17 (IntKind.i64.wrap ((m17.length : Int) - 1)).toNat).before.length + (inn m17 (IntKind.i64.wrap ((m17.length : Int) - 1)).toNat).bowlers.length ≤ 1000000 := by
   have h1 := lv.1
   have h2 := lv.2.1
   change (inn m17 (IntKind.i64.wrap ((m17.length : Int) - 1)).toNat).bowlers.length ≤ 11 at h1
   change (inn m17 (IntKind.i64.wrap ((m17.length : Int) - 1)).toNat).before.length ≤ 11 at h2
   omega
  have f1 := L6 (WU (⟨⟨m0, m1, m2, m3, m4, m5, m6, m7, m8, m9, m10, m11, m12, m13⟩, m14, m15, m16, m17, m18, m19, m20, m21, m22⟩ : Mat).rules (inn m17 (IntKind.i64.wrap ((m17.length : Int) - 1)).toNat) (⟨e0, e1, e2, e3, e4, e5, e6, ⟨e7, e8, e9, e10, e11, e12, e13, e14, e15, e16, e17, e18⟩⟩ : Ev)) fl (by omega)
  simp only [PXb, PXc, PXi, PXr, AZ, Inn.eta, Cc, Nat.reduceAdd, List.length_set, N6 h0 hl, DB, Q2 fl wl hN hs h13, fX, Bb, lnx]
  generalize hX : C2 (⟨⟨m0, m1, m2, m3, m4, m5, m6, m7, m8, m9, m10, m11, m12, m13⟩, m14, m15, m16, m17, m18, m19, m20, m21, m22⟩ : Mat).rules (inn m17 (IntKind.i64.wrap ((m17.length : Int) - 1)).toNat) (⟨e0, e1, e2, e3, e4, e5, e6, ⟨e7, e8, e9, e10, e11, e12, e13, e14, e15, e16, e17, e18⟩⟩ : Ev) = X at f1
  have fy := Vc (IntKind.i64.wrap ((m17.length : Int) - 1)).toNat hf f1
  generalize hy : m17.set (IntKind.i64.wrap ((m17.length : Int) - 1)).toNat X.1 = ys at fy
  have ly : ys.length = m17.length := by rw [← hy, List.length_set]
  cases X.2 == 0 <;> try rfl
  cases h13k : e0 == 13
  case false => rfl
  cases hsd : e1 == X.1.side
  case true => rfl
  simp only [PXb, Option.bind_assoc]
  have e0w : IntKind.i64.wrap ((m17.length : Int) - 1) = (m17.length : Int) - 1 - ((0 : Nat) : Int) := by
   rw [beq_eq_false_iff_ne] at h0
   rw [DG (by omega) (by omega)]; omega
  rw [e0w]
  have hside := oF (e := (⟨e0, e1, e2, e3, e4, e5, e6, ⟨e7, e8, e9, e10, e11, e12, e13, e14, e15, e16, e17, e18⟩⟩ : Ev)) he h13k
  simp only at hside
  refine AK (aX (len := m17.length) (fun j => [.int ((m17.length : Int) - 1 - (j : Int))]) (fun j => cond ((inn ys (m17.length - 1 - j)).side == e1) (some [PV.str m0, PV.int m1, PV.int m2, PV.int m3, PV.int m4, PV.int m5, PV.int m6, PV.int m7, PV.bool m8, PV.int m9, PV.int m10, PV.int m11, PV.int m12, PV.rows m13, PV.int m14, PV.int m15, PV.bool m16, PV.rows (AP (ys.set (m17.length - 1 - j) (Pg (inn ys (m17.length - 1 - j))))), PV.int m18, PV.int m19, PV.int m20, PV.int m21, PV.int m22]) none) ?_ ?_ m17.length 0 N (by omega) (by omega)) ?_
  ·intro self
   have q1 : iLe 0 ((m17.length : Int) - 1 - (m17.length : Int)) = false := by simp only [iLe, decide_eq_false_iff_not]; omega
   simp only [PXb, q1]
  ·intro i self hi
   have q1 : iLe 0 ((m17.length : Int) - 1 - (i : Int)) = true := by simp only [iLe, decide_eq_true_eq]; omega
   have q2 : iIn ((m17.length : Int) - 1 - (i : Int)) (m17.length : Int) = true := by simp only [iIn, decide_eq_true_eq]; omega
   have q3 : ((m17.length : Int) - 1 - (i : Int)).toNat = m17.length - 1 - i := by omega
   have q4 : IntKind.i64.wrap ((m17.length : Int) - 1 - (i : Int) - 1) = (m17.length : Int) - 1 - ((i + 1 : Nat) : Int) := by rw [DG (by omega) (by omega)]; omega
   have q5 := fy (m17.length - 1 - i) (by omega)
   simp only [PXb, PXc, q1, q2, q3, q4, Hc, TL q5, PXm]
   cases (inn ys (m17.length - 1 - i)).side == e1 <;> rfl
  ·have hfa := mT ys e1 (fun k => [PV.str m0, PV.int m1, PV.int m2, PV.int m3, PV.int m4, PV.int m5, PV.int m6, PV.int m7, PV.bool m8, PV.int m9, PV.int m10, PV.int m11, PV.int m12, PV.rows m13, PV.int m14, PV.int m15, PV.bool m16, PV.rows (AP (ys.set k (Pg (inn ys k)))), PV.int m18, PV.int m19, PV.int m20, PV.int m21, PV.int m22]) m17.length m17.length (Nat.le_refl _)
   rw [Nat.sub_self] at hfa
   rw [hfa]
   unfold MQ
   simp only [ly]
   cases UD ys e1 m17.length with
   | some k => rfl
   | none =>
    rcases hside with h | h <;> subst h
    ·simp only [Option.map_none, T1, PXb, PXc, Cc, Int.reduceBEq, wr1, Xn]
     rfl
    ·simp only [Option.map_none, T1, PXb, PXc, Cc, Int.reduceBEq, wr2, Xr]
     rfl
 ·have ak := rf ok (⟨e0, e1, e2, e3, e4, e5, e6, ⟨e7, e8, e9, e10, e11, e12, e13, e14, e15, e16, e17, e18⟩⟩ : Ev)
  generalize IU (⟨⟨m0, m1, m2, m3, m4, m5, m6, m7, m8, m9, m10, m11, m12, m13⟩, m14, m15, m16, m17, m18, m19, m20, m21, m22⟩ : Mat) (⟨e0, e1, e2, e3, e4, e5, e6, ⟨e7, e8, e9, e10, e11, e12, e13, e14, e15, e16, e17, e18⟩⟩ : Ev) = A at ak
  obtain ⟨⟨⟨a0, a1, a2, a3, a4, a5, a6, a7, a8, a9, a10, a11, a12, a13⟩, a14, a15, a16, a17, a18, a19, a20, a21, a22⟩, l⟩ := A
  obtain ⟨k1, k2, k3, k4⟩ := ak
  simp only at k1 k2 k3 k4
  have hl5 : a17.length ≤ 1048576 := by omega
  have hs5 : a0.size ≤ 1048576 := by
   have := congrArg Rul.name k1
   simp only at this
   rw [this]; exact hs
  simp only [PXb, PXc, PXk, PXi, Cc, Nat.reduceAdd]
  cases hl0 : l == 0
  case false => rfl
  simp only [PXb, Pp]
  cases h3 : a14 == 3
  case false => rfl
  have h0 := k4 hl0 h3
  have li := N6 h0 (show a17.length ≤ 1000000 by omega)
  simp only [PXb, PXc, PXi, li]
  cases he2 : (inn a17 (IntKind.i64.wrap ((a17.length : Int) - 1)).toNat).ending == 0
  case true => simp only [PXb, Bb, lnx, he2]
  simp only [PXb, PXc, PXi, Bb, lnx, he2, Kh, Fi, JH, So hN hl5, Iw, lw k2 hN (show a17.length ≤ 1000000 by omega) hs5]
  unfold QZ
  simp only [Bb, lnx]
  simp only [BB, Bb, lnx]
  cases hq1 : ((a17.length : Int) == IntKind.i64.wrap (2 * a2))
  case true => rfl
  cases hq2 : ((a17.length : Int) == 3)
  case true =>
   simp only [PXb]
   cases iLt (Gv a17 (inn a17 (IntKind.i64.wrap ((a17.length : Int) - 1)).toNat).side a17.length) (Gv a17 (Bo (inn a17 (IntKind.i64.wrap ((a17.length : Int) - 1)).toNat).side) a17.length)
   case true => rfl
   simp only [PXb]
   cases ((a17.length : Int) == 2) && iLt 0 a10 && iLe a10 (IntKind.i64.wrap (Gv a17 a15 a17.length - Gv a17 (Bo a15) a17.length)) <;> rfl
  simp only [PXb]
  cases ((a17.length : Int) == 2) && iLt 0 a10 && iLe a10 (IntKind.i64.wrap (Gv a17 a15 a17.length - Gv a17 (Bo a15) a17.length)) <;> rfl
end Go.Px
end
section
namespace Go.Px
set_option maxRecDepth 100000
def Uc (m : Mat) : Int := cond (!Cu m) 0 (cond (m.stage == 3) (Bb m).side (cond (m.stage == 2) (D5 m (m.inns.length : Int)) 0))
theorem ol {N : Nat} {m1 m2 m3 m4 m5 m6 m7 m9 m10 m11 m12 m14 m15 m18 m19 m20 m21 m22 : Int} {m8 m16 : Bool} {m0 : ByteArray} {m13 : Rows} {m17 : List Inn} (hf : DH m17) (hN : 2097152 < N) (hl : m17.length ≤ 1000000) (hs : m0.size ≤ 1048576) : JC N [.str m0, .int m1, .int m2, .int m3, .int m4, .int m5, .int m6, .int m7, .bool m8, .int m9, .int m10, .int m11, .int m12, .rows m13, .int m14, .int m15, .bool m16, .rows (AP m17), .int m18, .int m19, .int m20, .int m21, .int m22] = some [.int (Uc (⟨⟨m0, m1, m2, m3, m4, m5, m6, m7, m8, m9, m10, m11, m12, m13⟩, m14, m15, m16, m17, m18, m19, m20, m21, m22⟩ : Mat))] := by
 show JI (std (Ci N) N) (xOf _) = _
 generalize hres : (some [.int (Uc (⟨⟨m0, m1, m2, m3, m4, m5, m6, m7, m8, m9, m10, m11, m12, m13⟩, m14, m15, m16, m17, m18, m19, m20, m21, m22⟩ : Mat))] : Option (List PV)) = RR
 simp only [JI, Vx, L9, KN, std, xOf, PXb, XM hf hN hl hs]
 subst hres; simp only [Uc]
 cases hv : Cu (⟨⟨m0, m1, m2, m3, m4, m5, m6, m7, m8, m9, m10, m11, m12, m13⟩, m14, m15, m16, m17, m18, m19, m20, m21, m22⟩ : Mat)
 case false => rfl
 have ok := dr hv
 simp only [PXb]
 cases h3 : m14 == 3
 case true => simp only [PXb, PXi, L9, UQ (ok.begun h3) hl, Bb, PXm]
 cases h2 : m14 == 2
 case false => rfl
 have hr := ok.room h2
 have rk := (LV ok.code).innings
 simp only at hr rk
 have hi3 : 0 ≤ (m17.length : Int) ∧ (m17.length : Int) ≤ 3 := by omega
 simp only [PXb, PXi, KN, da hi3]
theorem v6 {m : Mat} (ok : MatOk m) (h2 : (m.stage == 2) = true) (sd : Int) : HW m sd = cond (IntKind.i64.wrap ((m.inns.length : Int) + 1) == IntKind.i64.wrap (2 * m.rules.innings)) (IntKind.i64.wrap (IntKind.i64.wrap (BB m (Bo sd) - BB m sd) + 1)) 0 := by
 have hr := ok.room h2
 have hm := ok.most.1
 have hl := ok.len
 unfold HW
 rw [hm, DG (by omega) (by omega)]
 cases hq : ((m.inns.length : Int) + 1 == 2 * m.rules.innings) with
 | true =>
  rw [beq_iff_eq] at hq
  rw [show iLt ((m.inns.length : Int) + 1) (2 * m.rules.innings) = false by simp only [iLt, decide_eq_false_iff_not]; omega]
  rfl
 | false =>
  rw [beq_eq_false_iff_ne] at hq
  rw [show iLt ((m.inns.length : Int) + 1) (2 * m.rules.innings) = true by simp only [iLt, decide_eq_true_eq]; omega]
  rfl
set_option maxHeartbeats 4000000 in
theorem vM {N : Nat} {m1 m2 m3 m4 m5 m6 m7 m9 m10 m11 m12 m14 m15 m18 m19 m20 m21 m22 : Int} {m8 m16 : Bool} {m0 : ByteArray} {m13 : Rows} {m17 : List Inn} {e0 e1 e2 e3 e5 e6 e7 e8 e9 e10 e11 e13 e14 e15 e16 e18 : Int} {e4 e12 e17 : Bool} (hN : 2097152 < N) (hf : DH m17) (hl : m17.length ≤ 1000000) (hs : m0.size ≤ 1048576) (h13 : m13.length ≤ 1048576) (ok : MatOk (⟨⟨m0, m1, m2, m3, m4, m5, m6, m7, m8, m9, m10, m11, m12, m13⟩, m14, m15, m16, m17, m18, m19, m20, m21, m22⟩ : Mat)) (hv : Cu (⟨⟨m0, m1, m2, m3, m4, m5, m6, m7, m8, m9, m10, m11, m12, m13⟩, m14, m15, m16, m17, m18, m19, m20, m21, m22⟩ : Mat) = true) (hs2 : (m14 == 2) = true) : Oo N [.str m0, .int m1, .int m2, .int m3, .int m4, .int m5, .int m6, .int m7, .bool m8, .int m9, .int m10, .int m11, .int m12, .rows m13, .int m14, .int m15, .bool m16, .rows (AP m17), .int m18, .int m19, .int m20, .int m21, .int m22, .int e0, .int e1, .int e2, .int e3, .bool e4, .int e5, .int e6, .int e7, .int e8, .int e9, .int e10, .int e11, .bool e12, .int e13, .int e14, .int e15, .int e16, .bool e17, .int e18] = some (G7 (ZV (⟨⟨m0, m1, m2, m3, m4, m5, m6, m7, m8, m9, m10, m11, m12, m13⟩, m14, m15, m16, m17, m18, m19, m20, m21, m22⟩ : Mat) (⟨e0, e1, e2, e3, e4, e5, e6, ⟨e7, e8, e9, e10, e11, e12, e13, e14, e15, e16, e17, e18⟩⟩ : Ev))) := by
 show Oq (std (Cr N) N) (xOf _) = _
 have hl2 : m17.length ≤ 1048576 := by omega
 have h304 : iSm ((m17.length + 1 : Nat) : Int) 304 = true := Dd (by omega) (by omega)
 have fb := fun a b c => (II (⟨⟨m0, m1, m2, m3, m4, m5, m6, m7, m8, m9, m10, m11, m12, m13⟩, m14, m15, m16, m17, m18, m19, m20, m21, m22⟩ : Mat).rules a b c).1
 have wb : ∀ a b c, (Bz (⟨⟨m0, m1, m2, m3, m4, m5, m6, m7, m8, m9, m10, m11, m12, m13⟩, m14, m15, m16, m17, m18, m19, m20, m21, m22⟩ : Mat).rules a b c).1.before.length + (Bz (⟨⟨m0, m1, m2, m3, m4, m5, m6, m7, m8, m9, m10, m11, m12, m13⟩, m14, m15, m16, m17, m18, m19, m20, m21, m22⟩ : Mat).rules a b c).1.bowlers.length ≤ 1000000 := fun a b c => by
  rw [(II (⟨⟨m0, m1, m2, m3, m4, m5, m6, m7, m8, m9, m10, m11, m12, m13⟩, m14, m15, m16, m17, m18, m19, m20, m21, m22⟩ : Mat).rules a b c).2.1, (II (⟨⟨m0, m1, m2, m3, m4, m5, m6, m7, m8, m9, m10, m11, m12, m13⟩, m14, m15, m16, m17, m18, m19, m20, m21, m22⟩ : Mat).rules a b c).2.2]
  exact Nat.zero_le _
 have hb : Uc (⟨⟨m0, m1, m2, m3, m4, m5, m6, m7, m8, m9, m10, m11, m12, m13⟩, m14, m15, m16, m17, m18, m19, m20, m21, m22⟩ : Mat) = D5 (⟨⟨m0, m1, m2, m3, m4, m5, m6, m7, m8, m9, m10, m11, m12, m13⟩, m14, m15, m16, m17, m18, m19, m20, m21, m22⟩ : Mat) (m17.length : Int) := by
  unfold Uc
  rw [hv]
  have h3 : (m14 == 3) = false := by
   rw [beq_iff_eq] at hs2
   rw [hs2]; rfl
  simp only [PXb, h3, hs2]
 have ht := fun sd => v6 ok hs2 sd
 simp only at ht
 simp only [Oq, IW, IY, Xp, IP, JY, std, xOf, PXb, ol hf hN hl hs, hb]
 rcases rZ (m := (⟨⟨m0, m1, m2, m3, m4, m5, m6, m7, m8, m9, m10, m11, m12, m13⟩, m14, m15, m16, m17, m18, m19, m20, m21, m22⟩ : Mat)) (ok.toss hs2) (m17.length : Int) with ho | ho
 ·simp only [PXb, PXc, ho, wr1, wr2, Xn, Xr, Cc, VO, Nat.reduceAdd, Int.reduceBEq, ZV, ht, PXi, IW, IY, Gu, L1 hN hl2]
  generalize hT : cond (IntKind.i64.wrap ((m17.length : Int) + 1) == IntKind.i64.wrap (2 * m2)) (IntKind.i64.wrap (IntKind.i64.wrap (BB (⟨⟨m0, m1, m2, m3, m4, m5, m6, m7, m8, m9, m10, m11, m12, m13⟩, m14, m15, m16, m17, m18, m19, m20, m21, m22⟩ : Mat) (Bo 1) - BB (⟨⟨m0, m1, m2, m3, m4, m5, m6, m7, m8, m9, m10, m11, m12, m13⟩, m14, m15, m16, m17, m18, m19, m20, m21, m22⟩ : Mat) 1) + 1)) 0 = T
  refine bind_ok (r := [.int T]) (by subst hT; cases IntKind.i64.wrap ((m17.length : Int) + 1) == IntKind.i64.wrap (2 * m2) <;> rfl) ?_
  simp only [PXb, PXc, PXi, PXr, Inn.eta, AZ, List.length_append, List.length_cons, List.length_nil, h304, Cc, VO, Nat.reduceAdd, Int.reduceBEq, IP, JY, hZ hN hs, Z5 (fb _ _ _) (wb _ _ _) hN hs h13]
  cases (Bz (⟨⟨m0, m1, m2, m3, m4, m5, m6, m7, m8, m9, m10, m11, m12, m13⟩, m14, m15, m16, m17, m18, m19, m20, m21, m22⟩ : Mat).rules 1 T m18).2 == 0 <;> try rfl
  cases (C2 (⟨⟨m0, m1, m2, m3, m4, m5, m6, m7, m8, m9, m10, m11, m12, m13⟩, m14, m15, m16, m17, m18, m19, m20, m21, m22⟩ : Mat).rules (Bz (⟨⟨m0, m1, m2, m3, m4, m5, m6, m7, m8, m9, m10, m11, m12, m13⟩, m14, m15, m16, m17, m18, m19, m20, m21, m22⟩ : Mat).rules 1 T m18).1 (⟨e0, e1, e2, e3, e4, e5, e6, ⟨e7, e8, e9, e10, e11, e12, e13, e14, e15, e16, e17, e18⟩⟩ : Ev)).2 == 0 <;> rfl
 ·simp only [PXb, PXc, ho, wr1, wr2, Xn, Xr, Cc, VO, Nat.reduceAdd, Int.reduceBEq, ZV, ht, PXi, IW, IY, Gu, L1 hN hl2]
  generalize hT : cond (IntKind.i64.wrap ((m17.length : Int) + 1) == IntKind.i64.wrap (2 * m2)) (IntKind.i64.wrap (IntKind.i64.wrap (BB (⟨⟨m0, m1, m2, m3, m4, m5, m6, m7, m8, m9, m10, m11, m12, m13⟩, m14, m15, m16, m17, m18, m19, m20, m21, m22⟩ : Mat) (Bo 2) - BB (⟨⟨m0, m1, m2, m3, m4, m5, m6, m7, m8, m9, m10, m11, m12, m13⟩, m14, m15, m16, m17, m18, m19, m20, m21, m22⟩ : Mat) 2) + 1)) 0 = T
  refine bind_ok (r := [.int T]) (by subst hT; cases IntKind.i64.wrap ((m17.length : Int) + 1) == IntKind.i64.wrap (2 * m2) <;> rfl) ?_
  simp only [PXb, PXc, PXi, PXr, Inn.eta, AZ, List.length_append, List.length_cons, List.length_nil, h304, Cc, VO, Nat.reduceAdd, Int.reduceBEq, IP, JY, hZ hN hs, Z5 (fb _ _ _) (wb _ _ _) hN hs h13]
  cases (Bz (⟨⟨m0, m1, m2, m3, m4, m5, m6, m7, m8, m9, m10, m11, m12, m13⟩, m14, m15, m16, m17, m18, m19, m20, m21, m22⟩ : Mat).rules 2 T m19).2 == 0 <;> try rfl
  cases (C2 (⟨⟨m0, m1, m2, m3, m4, m5, m6, m7, m8, m9, m10, m11, m12, m13⟩, m14, m15, m16, m17, m18, m19, m20, m21, m22⟩ : Mat).rules (Bz (⟨⟨m0, m1, m2, m3, m4, m5, m6, m7, m8, m9, m10, m11, m12, m13⟩, m14, m15, m16, m17, m18, m19, m20, m21, m22⟩ : Mat).rules 2 T m19).1 (⟨e0, e1, e2, e3, e4, e5, e6, ⟨e7, e8, e9, e10, e11, e12, e13, e14, e15, e16, e17, e18⟩⟩ : Ev)).2 == 0 <;> rfl
end Go.Px
end
section
namespace Go.Px
set_option maxRecDepth 100000
set_option maxHeartbeats 8000000 in
theorem uw {N : Nat} {m1 m2 m3 m4 m5 m6 m7 m9 m10 m11 m12 m14 m15 m18 m19 m20 m21 m22 : Int} {m8 m16 : Bool} {m0 : ByteArray} {m13 : Rows} {m17 : List Inn} {e0 e1 e2 e3 e5 e6 e7 e8 e9 e10 e11 e13 e14 e15 e16 e18 : Int} {e4 e12 e17 : Bool} (hN : 2097152 < N) (hf : DH m17) (hl : m17.length ≤ 1000000) (hs : m0.size ≤ 1048576) (h13 : m13.length ≤ 1048576) (ok : MatOk (⟨⟨m0, m1, m2, m3, m4, m5, m6, m7, m8, m9, m10, m11, m12, m13⟩, m14, m15, m16, m17, m18, m19, m20, m21, m22⟩ : Mat)) (he : (evS (⟨e0, e1, e2, e3, e4, e5, e6, ⟨e7, e8, e9, e10, e11, e12, e13, e14, e15, e16, e17, e18⟩⟩ : Ev) == 0) = true) (h3 : (m14 == 3) = true) : PL N [.str m0, .int m1, .int m2, .int m3, .int m4, .int m5, .int m6, .int m7, .bool m8, .int m9, .int m10, .int m11, .int m12, .rows m13, .int m14, .int m15, .bool m16, .rows (AP m17), .int m18, .int m19, .int m20, .int m21, .int m22, .int e0, .int e1, .int e2, .int e3, .bool e4, .int e5, .int e6, .int e7, .int e8, .int e9, .int e10, .int e11, .bool e12, .int e13, .int e14, .int e15, .int e16, .bool e17, .int e18] = some (G7 (fX (⟨⟨m0, m1, m2, m3, m4, m5, m6, m7, m8, m9, m10, m11, m12, m13⟩, m14, m15, m16, m17, m18, m19, m20, m21, m22⟩ : Mat) (⟨e0, e1, e2, e3, e4, e5, e6, ⟨e7, e8, e9, e10, e11, e12, e13, e14, e15, e16, e17, e18⟩⟩ : Ev))) := by
 show P4 (std (FZ N) N) (xOf _) = _
 simp only [P4, QT, MH, std, xOf, PXb]
 have h0 := ok.begun h3
 have lv := T4 (ok.innv (lnx m17) (lB h0 hl)).1
 have fl : (inn m17 (IntKind.i64.wrap ((m17.length : Int) - 1)).toNat).Fit := lv.2.2
 have wl : (inn m17 (IntKind.i64.wrap ((m17.length : Int) - 1)).toNat).before.length + (inn m17 (IntKind.i64.wrap ((m17.length : Int) - 1)).toNat).bowlers.length ≤ 1000000 := by
  have h1 := lv.1
  have h2 := lv.2.1
  change (inn m17 (IntKind.i64.wrap ((m17.length : Int) - 1)).toNat).bowlers.length ≤ 11 at h1
  change (inn m17 (IntKind.i64.wrap ((m17.length : Int) - 1)).toNat).before.length ≤ 11 at h2
  omega
 have f1 := L6 (WU (⟨⟨m0, m1, m2, m3, m4, m5, m6, m7, m8, m9, m10, m11, m12, m13⟩, m14, m15, m16, m17, m18, m19, m20, m21, m22⟩ : Mat).rules (inn m17 (IntKind.i64.wrap ((m17.length : Int) - 1)).toNat) (⟨e0, e1, e2, e3, e4, e5, e6, ⟨e7, e8, e9, e10, e11, e12, e13, e14, e15, e16, e17, e18⟩⟩ : Ev)) fl (by omega)
 simp only [PXb, PXc, PXi, PXr, AZ, Inn.eta, Cc, Nat.reduceAdd, List.length_set, N6 h0 hl, QT, Z5 fl wl hN hs h13, fX, Bb, lnx]
 generalize hX : C2 (⟨⟨m0, m1, m2, m3, m4, m5, m6, m7, m8, m9, m10, m11, m12, m13⟩, m14, m15, m16, m17, m18, m19, m20, m21, m22⟩ : Mat).rules (inn m17 (IntKind.i64.wrap ((m17.length : Int) - 1)).toNat) (⟨e0, e1, e2, e3, e4, e5, e6, ⟨e7, e8, e9, e10, e11, e12, e13, e14, e15, e16, e17, e18⟩⟩ : Ev) = X at f1
 have fy := Vc (IntKind.i64.wrap ((m17.length : Int) - 1)).toNat hf f1
 generalize hy : m17.set (IntKind.i64.wrap ((m17.length : Int) - 1)).toNat X.1 = ys at fy
 have ly : ys.length = m17.length := by rw [← hy, List.length_set]
 cases X.2 == 0 <;> try rfl
 cases h13k : e0 == 13
 case false => rfl
 cases hsd : e1 == X.1.side
 case true => rfl
 simp only [PXb, Option.bind_assoc]
 have e0w : IntKind.i64.wrap ((m17.length : Int) - 1) = (m17.length : Int) - 1 - ((0 : Nat) : Int) := by
  rw [beq_eq_false_iff_ne] at h0
  rw [DG (by omega) (by omega)]; omega
 rw [e0w]
 have hside := oF (e := (⟨e0, e1, e2, e3, e4, e5, e6, ⟨e7, e8, e9, e10, e11, e12, e13, e14, e15, e16, e17, e18⟩⟩ : Ev)) he h13k
 simp only at hside
 refine AK (aX (len := m17.length) (fun j => [.int ((m17.length : Int) - 1 - (j : Int))]) (fun j => cond ((inn ys (m17.length - 1 - j)).side == e1) (some [PV.int 0, PV.str m0, PV.int m1, PV.int m2, PV.int m3, PV.int m4, PV.int m5, PV.int m6, PV.int m7, PV.bool m8, PV.int m9, PV.int m10, PV.int m11, PV.int m12, PV.rows m13, PV.int m14, PV.int m15, PV.bool m16, PV.rows (AP (ys.set (m17.length - 1 - j) (Pg (inn ys (m17.length - 1 - j))))), PV.int m18, PV.int m19, PV.int m20, PV.int m21, PV.int m22]) none) ?_ ?_ m17.length 0 N (by omega) (by omega)) ?_
 ·intro self
  have q1 : iLe 0 ((m17.length : Int) - 1 - (m17.length : Int)) = false := by simp only [iLe, decide_eq_false_iff_not]; omega
  simp only [PXb, q1]
 ·intro i self hi
  have q1 : iLe 0 ((m17.length : Int) - 1 - (i : Int)) = true := by simp only [iLe, decide_eq_true_eq]; omega
  have q2 : iIn ((m17.length : Int) - 1 - (i : Int)) (m17.length : Int) = true := by simp only [iIn, decide_eq_true_eq]; omega
  have q3 : ((m17.length : Int) - 1 - (i : Int)).toNat = m17.length - 1 - i := by omega
  have q4 : IntKind.i64.wrap ((m17.length : Int) - 1 - (i : Int) - 1) = (m17.length : Int) - 1 - ((i + 1 : Nat) : Int) := by rw [DG (by omega) (by omega)]; omega
  have q5 := fy (m17.length - 1 - i) (by omega)
  simp only [PXb, PXc, q1, q2, q3, q4, MH, ax q5, PXm]
  cases (inn ys (m17.length - 1 - i)).side == e1 <;> rfl
 ·have hfa := mT ys e1 (fun k => [PV.int 0, PV.str m0, PV.int m1, PV.int m2, PV.int m3, PV.int m4, PV.int m5, PV.int m6, PV.int m7, PV.bool m8, PV.int m9, PV.int m10, PV.int m11, PV.int m12, PV.rows m13, PV.int m14, PV.int m15, PV.bool m16, PV.rows (AP (ys.set k (Pg (inn ys k)))), PV.int m18, PV.int m19, PV.int m20, PV.int m21, PV.int m22]) m17.length m17.length (Nat.le_refl _)
  rw [Nat.sub_self] at hfa
  rw [hfa]
  unfold MQ
  simp only [ly]
  cases UD ys e1 m17.length with
  | some k => rfl
  | none =>
   rcases hside with h | h <;> subst h
   ·simp only [Option.map_none, T1, PXb, PXc, Cc, Int.reduceBEq, wr1, Xn]
    rfl
   ·simp only [Option.map_none, T1, PXb, PXc, Cc, Int.reduceBEq, wr2, Xr]
    rfl
set_option maxHeartbeats 4000000 in
theorem wW {N : Nat} {m1 m2 m3 m4 m5 m6 m7 m9 m10 m11 m12 m14 m15 m18 m19 m20 m21 m22 : Int} {m8 m16 : Bool} {m0 : ByteArray} {m13 : Rows} {m17 : List Inn} {e0 e1 e2 e3 e5 e6 e7 e8 e9 e10 e11 e13 e14 e15 e16 e18 : Int} {e4 e12 e17 : Bool} (hN : 2097152 < N) (hf : DH m17) (hl : m17.length ≤ 1000000) (hs : m0.size ≤ 1048576) (h13 : m13.length ≤ 1048576) (ok : MatOk (⟨⟨m0, m1, m2, m3, m4, m5, m6, m7, m8, m9, m10, m11, m12, m13⟩, m14, m15, m16, m17, m18, m19, m20, m21, m22⟩ : Mat)) (hv : Cu (⟨⟨m0, m1, m2, m3, m4, m5, m6, m7, m8, m9, m10, m11, m12, m13⟩, m14, m15, m16, m17, m18, m19, m20, m21, m22⟩ : Mat) = true) (he : (evS (⟨e0, e1, e2, e3, e4, e5, e6, ⟨e7, e8, e9, e10, e11, e12, e13, e14, e15, e16, e17, e18⟩⟩ : Ev) == 0) = true) : ST N [.str m0, .int m1, .int m2, .int m3, .int m4, .int m5, .int m6, .int m7, .bool m8, .int m9, .int m10, .int m11, .int m12, .rows m13, .int m14, .int m15, .bool m16, .rows (AP m17), .int m18, .int m19, .int m20, .int m21, .int m22, .int e0, .int e1, .int e2, .int e3, .bool e4, .int e5, .int e6, .int e7, .int e8, .int e9, .int e10, .int e11, .bool e12, .int e13, .int e14, .int e15, .int e16, .bool e17, .int e18] = some (G7 (IU (⟨⟨m0, m1, m2, m3, m4, m5, m6, m7, m8, m9, m10, m11, m12, m13⟩, m14, m15, m16, m17, m18, m19, m20, m21, m22⟩ : Mat) (⟨e0, e1, e2, e3, e4, e5, e6, ⟨e7, e8, e9, e10, e11, e12, e13, e14, e15, e16, e17, e18⟩⟩ : Ev))) := by
 show SQ (std (E6 N) N) (xOf _) = _
 simp only [SQ, QQ, SJ, SC, std, xOf, PXb]
 unfold IU
 cases hk1 : e0 == 1
 case true =>
  simp only [PXb, QQ, Gu]
  cases m14 == 1 <;> cases e4 <;> rfl
 cases hk2 : e0 == 2
 case true =>
  simp only [PXb]
  cases hs2 : m14 == 2
  case false => rfl
  simp only [PXb, SJ, vM hN hf hl hs h13 ok hv hs2]
  rfl
 cases hk3 : e0 == 12
 case true =>
  simp only [PXb]
  cases m14 == 4 <;> cases e1 == m15 <;> rfl
 cases hk4 : e0 == 16
 case true =>
  simp only [PXb, pW, Yl]
  cases h3 : m14 == 3
  case false =>
   simp only [PXb, PXc, PXi, PXr, Cc, Nat.reduceAdd]
   cases m3 == 0 <;> rfl
  simp only [PXb, PXc, PXi, PXr, Cc, Nat.reduceAdd, N6 (ok.begun h3) hl]
  cases m3 == 0 <;> rfl
 simp only [PXb]
 cases h3 : m14 == 3
 case false => rfl
 simp only [PXb, SC, uw hN hf hl hs h13 ok he h3]
 rfl
theorem qx {N : Nat} {m1 m2 m3 m4 m5 m6 m7 m9 m10 m11 m12 m14 m15 m18 m19 m20 m21 m22 : Int} {m8 m16 : Bool} {m0 : ByteArray} {m13 : Rows} {m17 : List Inn} (hf : DH m17) (hN : 2097152 < N) (hl : m17.length ≤ 1000000) (hs : m0.size ≤ 1048576) (h0 : ((m17.length : Int) == 0) = false) : Kj N [.str m0, .int m1, .int m2, .int m3, .int m4, .int m5, .int m6, .int m7, .bool m8, .int m9, .int m10, .int m11, .int m12, .rows m13, .int m14, .int m15, .bool m16, .rows (AP m17), .int m18, .int m19, .int m20, .int m21, .int m22] = some (QZ (⟨⟨m0, m1, m2, m3, m4, m5, m6, m7, m8, m9, m10, m11, m12, m13⟩, m14, m15, m16, m17, m18, m19, m20, m21, m22⟩ : Mat)).ls := by
 show Kt (std (CX N) N) (xOf _) = _
 have hl5 : m17.length ≤ 1048576 := by omega
 simp only [Kt, Yc, X0, XN, VU, std, xOf, PXb, UQ h0 hl, Gu, L1 hN hl5, o8 hf hN hl hs, PXi]
 unfold QZ
 simp only [BB, Bb, lnx, PXm]
 cases hq1 : ((m17.length : Int) == IntKind.i64.wrap (2 * m2))
 case true => rfl
 cases hq2 : ((m17.length : Int) == 3)
 case true =>
  simp only [PXb]
  cases iLt (Gv m17 (inn m17 (IntKind.i64.wrap ((m17.length : Int) - 1)).toNat).side m17.length) (Gv m17 (Bo (inn m17 (IntKind.i64.wrap ((m17.length : Int) - 1)).toNat).side) m17.length)
  case true => rfl
  simp only [PXb]
  cases ((m17.length : Int) == 2) <;> cases iLt 0 m10 <;> try rfl
  simp only [PXb]
  cases iLe m10 (IntKind.i64.wrap (Gv m17 m15 m17.length - Gv m17 (Bo m15) m17.length)) <;> rfl
 simp only [PXb]
 cases ((m17.length : Int) == 2) <;> cases iLt 0 m10 <;> try rfl
 simp only [PXb]
 cases iLe m10 (IntKind.i64.wrap (Gv m17 m15 m17.length - Gv m17 (Bo m15) m17.length)) <;> rfl
set_option maxHeartbeats 4000000 in
theorem vH {N : Nat} {m1 m2 m3 m4 m5 m6 m7 m9 m10 m11 m12 m14 m15 m18 m19 m20 m21 m22 : Int} {m8 m16 : Bool} {m0 : ByteArray} {m13 : Rows} {m17 : List Inn} {e0 e1 e2 e3 e5 e6 e7 e8 e9 e10 e11 e13 e14 e15 e16 e18 : Int} {e4 e12 e17 : Bool} (hN : 2097152 < N) (hf : DH m17) (hl : m17.length ≤ 1000000) (hs : m0.size ≤ 1048576) (h13 : m13.length ≤ 1048576) : Om N [.str m0, .int m1, .int m2, .int m3, .int m4, .int m5, .int m6, .int m7, .bool m8, .int m9, .int m10, .int m11, .int m12, .rows m13, .int m14, .int m15, .bool m16, .rows (AP m17), .int m18, .int m19, .int m20, .int m21, .int m22, .int e0, .int e1, .int e2, .int e3, .bool e4, .int e5, .int e6, .int e7, .int e8, .int e9, .int e10, .int e11, .bool e12, .int e13, .int e14, .int e15, .int e16, .bool e17, .int e18] = some (G7 (CY (⟨⟨m0, m1, m2, m3, m4, m5, m6, m7, m8, m9, m10, m11, m12, m13⟩, m14, m15, m16, m17, m18, m19, m20, m21, m22⟩ : Mat) (⟨e0, e1, e2, e3, e4, e5, e6, ⟨e7, e8, e9, e10, e11, e12, e13, e14, e15, e16, e17, e18⟩⟩ : Ev))) := by
 show OU (std (CS N) N) (xOf _) = _
 generalize hres : (some (G7 (CY (⟨⟨m0, m1, m2, m3, m4, m5, m6, m7, m8, m9, m10, m11, m12, m13⟩, m14, m15, m16, m17, m18, m19, m20, m21, m22⟩ : Mat) (⟨e0, e1, e2, e3, e4, e5, e6, ⟨e7, e8, e9, e10, e11, e12, e13, e14, e15, e16, e17, e18⟩⟩ : Ev))) : Option (List PV)) = RR
 simp only [OU, On, ZP, aP, SD, QS, Nr, std, xOf, PXb, XM hf hN hl hs, gX, iP hf hN hl h13]
 subst hres; simp only [CY]
 cases hv : Cu (⟨⟨m0, m1, m2, m3, m4, m5, m6, m7, m8, m9, m10, m11, m12, m13⟩, m14, m15, m16, m17, m18, m19, m20, m21, m22⟩ : Mat)
 case false => rfl
 cases he : evS (⟨e0, e1, e2, e3, e4, e5, e6, ⟨e7, e8, e9, e10, e11, e12, e13, e14, e15, e16, e17, e18⟩⟩ : Ev) == 0
 case false => simp only [PXb, he]; rfl
 simp only [PXb, he]
 cases h5 : m14 == 5
 case true => rfl
 have ok := dr hv
 simp only [PXb, PXc, Cc, Nat.reduceAdd, On, iP hf hN hl h13, SD, wW hN hf hl hs h13 ok hv he]
 have ak := rf ok (⟨e0, e1, e2, e3, e4, e5, e6, ⟨e7, e8, e9, e10, e11, e12, e13, e14, e15, e16, e17, e18⟩⟩ : Ev)
 generalize IU (⟨⟨m0, m1, m2, m3, m4, m5, m6, m7, m8, m9, m10, m11, m12, m13⟩, m14, m15, m16, m17, m18, m19, m20, m21, m22⟩ : Mat) (⟨e0, e1, e2, e3, e4, e5, e6, ⟨e7, e8, e9, e10, e11, e12, e13, e14, e15, e16, e17, e18⟩⟩ : Ev) = A at ak
 obtain ⟨⟨⟨a0, a1, a2, a3, a4, a5, a6, a7, a8, a9, a10, a11, a12, a13⟩, a14, a15, a16, a17, a18, a19, a20, a21, a22⟩, l⟩ := A
 obtain ⟨k1, k2, k3, k4⟩ := ak
 simp only at k1 k2 k3 k4
 have hl5 : a17.length ≤ 1000000 := by omega
 have hs5 : a0.size ≤ 1048576 := by
  have := congrArg Rul.name k1
  simp only at this
  rw [this]; exact hs
 simp only [PXb, PXc, PXk, PXi, Cc, Nat.reduceAdd]
 cases hl0 : l == 0
 case false => rfl
 simp only [PXb, Pp]
 cases h3 : a14 == 3
 case false => rfl
 have h0 := k4 hl0 h3
 simp only [PXb, PXc, PXi, QS, UQ h0 hl5, Bb, Nr, qx k2 hN hl5 hs5 h0, PXm]
 cases (inn a17 (lnx a17)).ending == 0 <;> rfl
end Go.Px
end
section
namespace Go.Px
set_option maxRecDepth 100000
theorem tE (m : Mat) : (QZ m).rules = m.rules ∧ (QZ m).inns = m.inns := by
 unfold QZ
 dsimp only
 cases ((m.inns.length : Int) == IntKind.i64.wrap (2 * m.rules.innings) || ((m.inns.length : Int) == 3 && iLt (BB m (Bb m).side) (BB m (Bo (Bb m).side)))) with
 | true => exact ⟨rfl, rfl⟩
 | false =>
  cases ((m.inns.length : Int) == 2 && iLt 0 m.rules.followon && iLe m.rules.followon (IntKind.i64.wrap (BB m m.first - BB m (Bo m.first)))) <;> exact ⟨rfl, rfl⟩
theorem mB (m : Mat) : (Pp m).rules = m.rules ∧ (Pp m).inns = m.inns := by
 unfold Pp
 cases (m.stage == 3 && !((Bb m).ending == 0)) with
 | true => exact tE m
 | false => exact ⟨rfl, rfl⟩
structure StepOk (r : Rul) (m : Mat) : Prop where
 rules : m.rules = r
 fit : DH m.inns
 len : m.inns.length ≤ 5
theorem Zv {r : Rul} {m : Mat} (h : StepOk r m) (e : Ev) : StepOk r (CY m e).1 := by
 unfold CY
 cases hv : Cu m with
 | false => exact h
 | true =>
  cases he : evS e == 0 with
  | false => exact h
  | true =>
   cases h5 : m.stage == 5 with
   | true => exact h
   | false =>
    have a := rf (dr hv) e
    cases hx : (IU m e).2 == 0 with
    | false => exact h
    | true =>
     have k := mB (IU m e).1
     exact ⟨k.1.trans (a.rules.trans h.rules), by show DH (Pp _).inns; rw [k.2]; exact a.fit, by show (Pp _).inns.length ≤ 5; rw [k.2]; exact a.len⟩
theorem mq (r : Rul) (h : ((Cf r).2 == 0) = true) : StepOk r (Cf r).1 := by
 unfold Cf at h ⊢
 cases hc : A4 r == 0 with
 | false => rw [hc] at h; exact absurd (show (A4 r == 0) = true from h) (by rw [hc]; decide)
 | true => exact ⟨rfl, fun i hi => absurd hi (Nat.not_lt_zero i), Nat.zero_le _⟩
theorem xT {m : Mat} {e : Ev} (h : ((CY m e).2 == 0) = true) : Cu m = true ∧ (evS e == 0) = true ∧ (m.stage == 5) = false ∧ ((IU m e).2 == 0) = true ∧ (CY m e).1 = Pp (IU m e).1 := by
 unfold CY at h ⊢
 cases hv : Cu m with
 | false => rw [hv] at h; exact absurd (show ((1 : Int) == 0) = true from h) (by decide)
 | true =>
  cases he : evS e == 0 with
  | false => rw [hv, he] at h; exact absurd (show ((1 : Int) == 0) = true from h) (by decide)
  | true =>
   cases h5 : m.stage == 5 with
   | true => rw [hv, he, h5] at h; exact absurd (show ((26 : Int) == 0) = true from h) (by decide)
   | false =>
    cases hx : (IU m e).2 == 0 with
    | false => rw [hv, he, h5, hx] at h; exact absurd (show ((IU m e).2 == 0) = true from h) (by rw [hx]; decide)
    | true => exact ⟨rfl, rfl, rfl, rfl, rfl⟩
theorem uG {m : Mat} {e : Ev} (h : ((CY m e).2 == 0) = true) (hk : (e.kind == 4) = true) : (m.stage == 3) = true ∧ ((m.inns.length : Int) == 0) = false ∧ ((C2 m.rules (Bb m) e).2 == 0) = true ∧ (CY m e).1.inns = m.inns.set (lnx m.inns) (C2 m.rules (Bb m) e).1 := by
 obtain ⟨hv, he, h5, ha, hs⟩ := xT h
 have hk4 := beq_iff_eq.1 hk
 rw [hs, (mB _).2]
 unfold IU at ha ⊢
 simp only [hk4, Int.reduceBEq, cond_false] at ha ⊢
 cases h3 : m.stage == 3 with
 | false => rw [h3] at ha; exact absurd (show ((1 : Int) == 0) = true from ha) (by decide)
 | true =>
  rw [h3] at ha
  simp only [Bool.not_true, cond_false] at ha ⊢
  unfold fX at ha ⊢
  cases hq : (C2 m.rules (Bb m) e).2 == 0 with
  | false => simp only [hq, Bool.not_false, cond_true] at ha; exact absurd ha Bool.false_ne_true
  | true =>
   simp only [hk4, Int.reduceBEq, Bool.false_and, hq, Bool.not_true, cond_false]
   exact ⟨trivial, (dr hv).begun h3, trivial, trivial⟩
theorem uL (b : ByteArray) : (b.toList == b.toList) = true := beq_self_eq_true _
theorem UL {N : Nat} {L : Rows} (hN : 2097152 < N) (h13 : L.length ≤ 1048576) : DQ N [.rows L, .rows L] = some [.bool true] := by
 show Et (std (MO N) N) (xOf _) = _
 simp only [Et, std, xOf, PXb, PXm]
 refine AK (DK (len := L.length) (fun i => [.int (i : Int)]) [.int 1] ?_ ?_ N (by omega)) ?_
 ·intro self
  simp only [PXb, PXc, PXn, AB, Ao]
 ·intro i self hi
  simp only [PXb, PXc, PXn, PXm, Nat.reduceAdd, Int.reduceBEq, AQ (show i ≤ 1099511627776 by omega), Ah hi, AO hi]
  rfl
 ·simp only [PXb, PXc, PXn, PXm, Nat.reduceAdd, Int.reduceBEq]
theorem kF {N : Nat} {r1 r2 r3 r4 r5 r6 r7 r9 r10 r11 r12 : Int} {r8 : Bool} {r0 : ByteArray} {r13 : Rows}  : GO N [.str r0, .int r1, .int r2, .int r3, .int r4, .int r5, .int r6, .int r7, .bool r8, .int r9, .int r10, .int r11, .int r12, .rows r13] = some [.int r1, .int r2, .int r3, .int r4, .int r5, .int r6, .int r7, .int r9, .int r10, .int r11, .int r12] := by
 show Jf (std (TP N) N) (xOf _) = _
 simp only [Jf, std, xOf, PXb, PXc, PXn, PXm, Nat.reduceAdd, Int.reduceBEq]
theorem f5 {N : Nat} {r1 r2 r3 r4 r5 r6 r7 r9 r10 r11 r12 : Int} {r8 : Bool} {r0 : ByteArray} {r13 : Rows} (hN : 2097152 < N) (h13 : r13.length ≤ 1048576) : Og N [.str r0, .int r1, .int r2, .int r3, .int r4, .int r5, .int r6, .int r7, .bool r8, .int r9, .int r10, .int r11, .int r12, .rows r13, .str r0, .int r1, .int r2, .int r3, .int r4, .int r5, .int r6, .int r7, .bool r8, .int r9, .int r10, .int r11, .int r12, .rows r13] = some [.bool true] := by
 show PZ (std (LS N) N) (xOf _) = _
 simp only [PZ, TA, OI, std, xOf, PXb, PXc, PXn, PXm, Nat.reduceAdd, Int.reduceBEq, uL, kF, UL hN h13]
end Go.Px
end
section
namespace Go.Px
set_option maxRecDepth 100000
def evR (L : Rows) (i : Nat) : Ev := ⟨atI L i 0, atI L i 1, atI L i 2, atI L i 3, atB L i 4, atI L i 5, atI L i 6, ⟨atI L i 7, atI L i 8, atI L i 9, atI L i 10, atI L i 11, atB L i 12, atI L i 13, atI L i 14, atI L i 15, atI L i 16, atB L i 17, atI L i 18⟩⟩
theorem vi (L : Rows) (i : Nat) : (⟨atI L i 0, atI L i 1, atI L i 2, atI L i 3, atB L i 4, atI L i 5, atI L i 6, ⟨atI L i 7, atI L i 8, atI L i 9, atI L i 10, atI L i 11, atB L i 12, atI L i 13, atI L i 14, atI L i 15, atI L i 16, atB L i 17, atI L i 18⟩⟩ : Ev) = evR L i := rfl
def Aw (i : Int) (m : Mat) (e : Ev) : Mat × Int := cond (iLe 4000 i) (m, 26) (CY m e)
def Cz (L : Rows) : Nat → Nat → Mat → Mat × Int × Int
 | 0, _, m => (m, -1, 0)
 | k + 1, i, m => cond (!((Aw i m (evR L i)).2 == 0)) (m, (i : Int), (Aw i m (evR L i)).2) (Cz L k (i + 1) (Aw i m (evR L i)).1)
def kn (i : Int) (m t : Mat) (d : Del) : List PV :=
 [.int i, .int (IntKind.i64.wrap ((m.inns.length : Int) - 1)), .int (Bb m).complete, .int (Bb m).inover, .int (Bb m).bowler, .int (Bb m).striker, .int (Bb m).other, .bool (Bb m).freehit,
  .int d.type, .int d.source, .int d.runs, .int d.short, .int d.boundary, .bool d.crossed, .int d.how, .int d.victim, .int d.fielder, .int d.second, .bool d.sub, .int d.sector,
  .int (BG m.rules d).batter, .int (BG m.rules d).wides, .int (BG m.rules d).noballs, .int (BG m.rules d).byes, .int (BG m.rules d).legbyes, .int (BG m.rules d).bowler, .bool (BG m.rules d).counts, .bool (BG m.rules d).faced, .bool (BG m.rules d).wicket, .bool (BG m.rules d).swap,
  .int (inn t.inns (lnx m.inns)).runs, .int (inn t.inns (lnx m.inns)).wickets]
def Wu (L : Rows) : Nat → Nat → Mat → Rows → Rows
 | 0, _, _, out => out
 | k + 1, i, m, out => cond (!((Aw i m (evR L i)).2 == 0)) out (Wu L k (i + 1) (Aw i m (evR L i)).1 (cond ((evR L i).kind == 4) (out ++ [kn i m (Aw i m (evR L i)).1 (evR L i).ball]) out))
def Tg (f : Mat × Int × Int) : List PV := [.str f.1.rules.name, .int f.1.rules.side, .int f.1.rules.innings, .int f.1.rules.overs, .int f.1.rules.balls, .int f.1.rules.quota, .int f.1.rules.wide, .int f.1.rules.noball, .bool f.1.rules.freehit, .int f.1.rules.newball, .int f.1.rules.followon, .int f.1.rules.reviews, .int f.1.rules.outside, .rows f.1.rules.power, .int f.1.stage, .int f.1.first, .bool f.1.follow, .rows (AP f.1.inns), .int f.1.pen1, .int f.1.pen2, .int f.1.win, .int f.1.wside, .int f.1.margin, .int f.2.1, .int f.2.2]
def Bq (r : Rul) (L : Rows) : Mat × Int × Int := cond (!((Cf r).2 == 0)) (xz, 0, 1) (Cz L L.length 0 (Cf r).1)
def mu (r : Rul) (L : Rows) : Rows := cond (!((Cf r).2 == 0)) [] (Wu L L.length 0 (Cf r).1 [])
theorem i4 (L : Rows) : ∀ k i m, ((Cz L k i m).2.1 == -1) = true → (Cz L k i m).2.2 = 0
 | 0, _, _, _ => rfl
 | k + 1, i, m, h => by
  unfold Cz at h ⊢
  cases hq : (Aw i m (evR L i)).2 == 0 with
  | false =>
   rw [hq] at h
   have := beq_iff_eq.1 (show ((i : Int) == -1) = true from h)
   omega
  | true => rw [hq] at h; exact i4 L k (i + 1) _ h
theorem ir {r : Rul} {m : Mat} (h : StepOk r m) (i : Int) (e : Ev) : StepOk r (Aw i m e).1 := by
 unfold Aw
 cases iLe 4000 i with
 | true => exact h
 | false => exact Zv h e
theorem wg {m : Mat} {i : Int} {e : Ev} (h : ((Aw i m e).2 == 0) = true) : Aw i m e = CY m e ∧ iLe 4000 i = false := by
 unfold Aw at h ⊢
 cases h4 : iLe 4000 i with
 | true => rw [h4] at h; exact absurd (show ((26 : Int) == 0) = true from h) (by decide)
 | false => exact ⟨rfl, rfl⟩
theorem u9 {N : Nat} {m1 m2 m3 m4 m5 m6 m7 m9 m10 m11 m12 m14 m15 m18 m19 m20 m21 m22 : Int} {m8 m16 : Bool} {m0 : ByteArray} {m13 : Rows} {m17 : List Inn} {i : Int} {e0 e1 e2 e3 e5 e6 e7 e8 e9 e10 e11 e13 e14 e15 e16 e18 : Int} {e4 e12 e17 : Bool} (hN : 2097152 < N) (hf : DH m17) (hl : m17.length ≤ 1000000) (hs : m0.size ≤ 1048576) (h13 : m13.length ≤ 1048576) : Pz N [.str m0, .int m1, .int m2, .int m3, .int m4, .int m5, .int m6, .int m7, .bool m8, .int m9, .int m10, .int m11, .int m12, .rows m13, .int m14, .int m15, .bool m16, .rows (AP m17), .int m18, .int m19, .int m20, .int m21, .int m22, .int i, .int e0, .int e1, .int e2, .int e3, .bool e4, .int e5, .int e6, .int e7, .int e8, .int e9, .int e10, .int e11, .bool e12, .int e13, .int e14, .int e15, .int e16, .bool e17, .int e18] = some (G7 (Aw i (⟨⟨m0, m1, m2, m3, m4, m5, m6, m7, m8, m9, m10, m11, m12, m13⟩, m14, m15, m16, m17, m18, m19, m20, m21, m22⟩ : Mat) (⟨e0, e1, e2, e3, e4, e5, e6, ⟨e7, e8, e9, e10, e11, e12, e13, e14, e15, e16, e17, e18⟩⟩ : Ev))) := by
 show Pr (std (HN N) N) (xOf _) = _
 generalize hres : (some (G7 (Aw i (⟨⟨m0, m1, m2, m3, m4, m5, m6, m7, m8, m9, m10, m11, m12, m13⟩, m14, m15, m16, m17, m18, m19, m20, m21, m22⟩ : Mat) (⟨e0, e1, e2, e3, e4, e5, e6, ⟨e7, e8, e9, e10, e11, e12, e13, e14, e15, e16, e17, e18⟩⟩ : Ev))) : Option (List PV)) = RR
 simp only [Pr, YT, std, xOf, PXb, Uy hN hf hl hs h13]
 subst hres; simp only [Aw]
 cases iLe 4000 i <;> rfl
theorem kb {N : Nat} {i : Int} {m1 m2 m3 m4 m5 m6 m7 m9 m10 m11 m12 m14 m15 m18 m19 m20 m21 m22 : Int} {m8 m16 : Bool} {m0 : ByteArray} {m13 : Rows} {m17 : List Inn} {t1 t2 t3 t4 t5 t6 t7 t9 t10 t11 t12 t14 t15 t18 t19 t20 t21 t22 : Int} {t8 t16 : Bool} {t0 : ByteArray} {t13 : Rows} {t17 : List Inn} {d0 d1 d2 d3 d4 d6 d7 d8 d9 d11 : Int} {d5 d10 : Bool} (h1 : iIn (IntKind.i64.wrap ((m17.length : Int) - 1)) (m17.length : Int) = true) (h2 : iIn (IntKind.i64.wrap ((m17.length : Int) - 1)) (t17.length : Int) = true) : Jw N [.int i, .str m0, .int m1, .int m2, .int m3, .int m4, .int m5, .int m6, .int m7, .bool m8, .int m9, .int m10, .int m11, .int m12, .rows m13, .int m14, .int m15, .bool m16, .rows (AP m17), .int m18, .int m19, .int m20, .int m21, .int m22, .str t0, .int t1, .int t2, .int t3, .int t4, .int t5, .int t6, .int t7, .bool t8, .int t9, .int t10, .int t11, .int t12, .rows t13, .int t14, .int t15, .bool t16, .rows (AP t17), .int t18, .int t19, .int t20, .int t21, .int t22, .int d0, .int d1, .int d2, .int d3, .int d4, .bool d5, .int d6, .int d7, .int d8, .int d9, .bool d10, .int d11] = some (kn i (⟨⟨m0, m1, m2, m3, m4, m5, m6, m7, m8, m9, m10, m11, m12, m13⟩, m14, m15, m16, m17, m18, m19, m20, m21, m22⟩ : Mat) (⟨⟨t0, t1, t2, t3, t4, t5, t6, t7, t8, t9, t10, t11, t12, t13⟩, t14, t15, t16, t17, t18, t19, t20, t21, t22⟩ : Mat) (⟨d0, d1, d2, d3, d4, d5, d6, d7, d8, d9, d10, d11⟩ : Del)) := by
 show Je (std (Lp N) N) (xOf _) = _
 simp only [Je, OA, std, xOf, PXb, PXi, h1, h2, TW]
 rfl
def Ve (L : Rows) (i : Nat) (m : Mat) : List PV ⊕ Mat := cond (!((Aw i m (evR L i)).2 == 0)) (.inl (.int 0 :: .int i :: .int (Aw i m (evR L i)).2 :: m.ls)) (.inr (Aw i m (evR L i)).1)
def vT (f : Mat × Int × Int) : List PV := cond (f.2.1 == -1) (.int 1 :: f.1.ls) (.int 0 :: .int f.2.1 :: .int f.2.2 :: f.1.ls)
theorem nX (L : Rows) : ∀ k i m, UV (Ve L) (fun m => .int 1 :: m.ls) k i m = vT (Cz L k i m)
 | 0, _, _ => rfl
 | k + 1, i, m => by
  simp only [UV, Ve, Cz]
  cases (Aw i m (evR L i)).2 == 0 with
  | false =>
   simp only [Bool.not_false, cond_true, vT]
   rw [show ((i : Int) == -1) = false from beq_false_of_ne (show (i : Int) ≠ -1 by omega)]
   rfl
  | true => exact nX L k (i + 1) _
set_option maxHeartbeats 4000000 in
theorem tz {N : Nat} {m1 m2 m3 m4 m5 m6 m7 m9 m10 m11 m12 m14 m15 m18 m19 m20 m21 m22 : Int} {m8 m16 : Bool} {m0 : ByteArray} {m13 : Rows} {m17 : List Inn} {L : Rows} (hN : 2097152 < N) (hf : DH m17) (hl : m17.length ≤ 5) (hs : m0.size ≤ 1048576) (h13 : m13.length ≤ 1048576) (hL : L.length ≤ 1048576) : PE N [.str m0, .int m1, .int m2, .int m3, .int m4, .int m5, .int m6, .int m7, .bool m8, .int m9, .int m10, .int m11, .int m12, .rows m13, .int m14, .int m15, .bool m16, .rows (AP m17), .int m18, .int m19, .int m20, .int m21, .int m22, .rows L] = some (Tg (Cz L L.length 0 (⟨⟨m0, m1, m2, m3, m4, m5, m6, m7, m8, m9, m10, m11, m12, m13⟩, m14, m15, m16, m17, m18, m19, m20, m21, m22⟩ : Mat))) := by
  show Oz (std (Hg N) N) (xOf _) = _
  generalize hres : (some (Tg (Cz L L.length 0 (⟨⟨m0, m1, m2, m3, m4, m5, m6, m7, m8, m9, m10, m11, m12, m13⟩, m14, m15, m16, m17, m18, m19, m20, m21, m22⟩ : Mat))) : Option (List PV)) = RR
  simp only [Oz, QL, std, xOf, PXb]
  subst hres
  refine AK (W8 (St := Mat) (len := L.length) (enc := fun i m => [.int (i : Int), .str m.rules.name, .int m.rules.side, .int m.rules.innings, .int m.rules.overs, .int m.rules.balls, .int m.rules.quota, .int m.rules.wide, .int m.rules.noball, .bool m.rules.freehit, .int m.rules.newball, .int m.rules.followon, .int m.rules.reviews, .int m.rules.outside, .rows m.rules.power, .int m.stage, .int m.first, .bool m.follow, .rows (AP m.inns), .int m.pen1, .int m.pen2, .int m.win, .int m.wside, .int m.margin])
    (body := Ve L) (fin := fun m => .int 1 :: m.ls) (fun _ m => StepOk (⟨m0, m1, m2, m3, m4, m5, m6, m7, m8, m9, m10, m11, m12, m13⟩ : Rul) m) ?_ ?_ L.length 0 (⟨⟨m0, m1, m2, m3, m4, m5, m6, m7, m8, m9, m10, m11, m12, m13⟩, m14, m15, m16, m17, m18, m19, m20, m21, m22⟩ : Mat) N (by omega) (by omega) ⟨rfl, hf, hl⟩) ?_
  · intro m self _
    simp only [PXb, PXc, PXn, AB, Ao]
    rfl
  · intro i m self hi ok
    obtain ⟨⟨a0, a1, a2, a3, a4, a5, a6, a7, a8, a9, a10, a11, a12, a13⟩, a14, a15, a16, a17, a18, a19, a20, a21, a22⟩ := m
    have o1 := ok.rules
    have o2 := ok.fit
    have o3 := ok.len
    simp only at o1 o2 o3
    cases o1
    have kp := ir ok (i : Int) (evR L i)
    refine ⟨?_, ?_⟩
    · simp only [PXb, PXc, PXn, AB, AQ (show i ≤ 1099511627776 by omega), Ah hi, AO hi, QL, vH hN o2 (show a17.length ≤ 1000000 by omega) hs h13, BI, fV, Nat.reduceAdd, PXk, PXc, vi]
      unfold Ve Aw
      cases iLe 4000 (i : Int)
      case true => rfl
      simp only [cond_false]
      cases (CY (⟨⟨m0, m1, m2, m3, m4, m5, m6, m7, m8, m9, m10, m11, m12, m13⟩, a14, a15, a16, a17, a18, a19, a20, a21, a22⟩ : Mat) (evR L i)).2 == 0 <;> rfl
    · intro s' h
      unfold Ve at h
      cases hq : (Aw (i : Int) (⟨⟨m0, m1, m2, m3, m4, m5, m6, m7, m8, m9, m10, m11, m12, m13⟩, a14, a15, a16, a17, a18, a19, a20, a21, a22⟩ : Mat) (evR L i)).2 == 0 with
      | false => rw [hq] at h; cases h
      | true => rw [hq] at h; cases h; exact kp
  · rw [nX]
    have he := i4 L L.length 0 (⟨⟨m0, m1, m2, m3, m4, m5, m6, m7, m8, m9, m10, m11, m12, m13⟩, m14, m15, m16, m17, m18, m19, m20, m21, m22⟩ : Mat)
    generalize Cz L L.length 0 (⟨⟨m0, m1, m2, m3, m4, m5, m6, m7, m8, m9, m10, m11, m12, m13⟩, m14, m15, m16, m17, m18, m19, m20, m21, m22⟩ : Mat) = f at he
    obtain ⟨⟨⟨a0, a1, a2, a3, a4, a5, a6, a7, a8, a9, a10, a11, a12, a13⟩, a14, a15, a16, a17, a18, a19, a20, a21, a22⟩, b, l⟩ := f
    simp only at he
    unfold vT
    cases hb : b == -1 with
    | false => rfl
    | true =>
      rw [he hb, beq_iff_eq.1 hb]
      rfl
end Go.Px
end
section
namespace Go.Px
set_option maxRecDepth 100000
def Ut (L : Rows) (i : Nat) (s : Rows × Mat) : List PV ⊕ Rows × Mat := cond (!((Aw i s.2 (evR L i)).2 == 0)) (.inl (.int 0 :: .rows s.1 :: .int i :: .int (Aw i s.2 (evR L i)).2 :: s.2.ls)) (.inr (cond ((evR L i).kind == 4) (s.1 ++ [kn i s.2 (Aw i s.2 (evR L i)).1 (evR L i).ball]) s.1, (Aw i s.2 (evR L i)).1))
def vJ (out : Rows) (f : Mat × Int × Int) : List PV := cond (f.2.1 == -1) (.int 1 :: .rows out :: f.1.ls) (.int 0 :: .rows out :: .int f.2.1 :: .int f.2.2 :: f.1.ls)
theorem oB (L : Rows) : ∀ k i s, UV (Ut L) (fun s => .int 1 :: .rows s.1 :: s.2.ls) k i s = vJ (Wu L k i s.2 s.1) (Cz L k i s.2)
 | 0, _, _ => rfl
 | k + 1, i, s => by
  simp only [UV, Ut, Cz, Wu]
  cases (Aw i s.2 (evR L i)).2 == 0 with
  | false =>
   simp only [Bool.not_false, cond_true, vJ]
   rw [show ((i : Int) == -1) = false from beq_false_of_ne (show (i : Int) ≠ -1 by omega)]
   rfl
  | true => exact oB L k (i + 1) _
def wm (out : Rows) (f : Mat × Int × Int) : List PV := [.rows out, .str f.1.rules.name, .int f.1.rules.side, .int f.1.rules.innings, .int f.1.rules.overs, .int f.1.rules.balls, .int f.1.rules.quota, .int f.1.rules.wide, .int f.1.rules.noball, .bool f.1.rules.freehit, .int f.1.rules.newball, .int f.1.rules.followon, .int f.1.rules.reviews, .int f.1.rules.outside, .rows f.1.rules.power, .int f.1.stage, .int f.1.first, .bool f.1.follow, .rows (AP f.1.inns), .int f.1.pen1, .int f.1.pen2, .int f.1.win, .int f.1.wside, .int f.1.margin, .int f.2.1, .int f.2.2]
theorem zB {m t : Mat} {e : Ev} (hl : m.inns.length ≤ 5) (h : ((CY m e).2 == 0) = true) (hk : (e.kind == 4) = true) (ht : (CY m e).1 = t) : iIn (IntKind.i64.wrap ((m.inns.length : Int) - 1)) (m.inns.length : Int) = true ∧ iIn (IntKind.i64.wrap ((m.inns.length : Int) - 1)) (t.inns.length : Int) = true := by
 obtain ⟨_, h2, _, h4⟩ := uG h hk
 have := N6 h2 (show m.inns.length ≤ 1000000 by omega)
 rw [← ht, h4, List.length_set]
 exact ⟨this, this⟩
set_option maxHeartbeats 8000000 in
theorem uC {N : Nat} {r1 r2 r3 r4 r5 r6 r7 r9 r10 r11 r12 : Int} {r8 : Bool} {r0 : ByteArray} {r13 : Rows} {L : Rows} (hN : 2097152 < N) (hs : r0.size ≤ 1048576) (h13 : r13.length ≤ 1048576) (hL : L.length ≤ 1048576) : Oe N [.str r0, .int r1, .int r2, .int r3, .int r4, .int r5, .int r6, .int r7, .bool r8, .int r9, .int r10, .int r11, .int r12, .rows r13, .rows L] = some (wm (mu (⟨r0, r1, r2, r3, r4, r5, r6, r7, r8, r9, r10, r11, r12, r13⟩ : Rul) L) (Bq (⟨r0, r1, r2, r3, r4, r5, r6, r7, r8, r9, r10, r11, r12, r13⟩ : Rul) L)) := by
  show PC (std (EC N) N) (xOf _) = _
  generalize hres : (some (wm (mu (⟨r0, r1, r2, r3, r4, r5, r6, r7, r8, r9, r10, r11, r12, r13⟩ : Rul) L) (Bq (⟨r0, r1, r2, r3, r4, r5, r6, r7, r8, r9, r10, r11, r12, r13⟩ : Rul) L)) : Option (List PV)) = RR
  simp only [PC, aM, QM, KG, std, xOf, PXb, il hN hs h13]
  subst hres; simp only [mu, Bq]
  have nk := mq (⟨r0, r1, r2, r3, r4, r5, r6, r7, r8, r9, r10, r11, r12, r13⟩ : Rul)
  generalize Cf (⟨r0, r1, r2, r3, r4, r5, r6, r7, r8, r9, r10, r11, r12, r13⟩ : Rul) = X at nk
  obtain ⟨⟨⟨m0, m1, m2, m3, m4, m5, m6, m7, m8, m9, m10, m11, m12, m13⟩, m14, m15, m16, m17, m18, m19, m20, m21, m22⟩, l⟩ := X
  simp only at nk
  simp only [PXb, PXc, PXk, Nat.reduceAdd]
  cases hl : l == 0
  case false => rfl
  have ok := nk hl
  simp only [PXb]
  refine AK (W8 (St := Rows × Mat) (len := L.length) (enc := fun i s => [.rows s.1, .int (i : Int), .str s.2.rules.name, .int s.2.rules.side, .int s.2.rules.innings, .int s.2.rules.overs, .int s.2.rules.balls, .int s.2.rules.quota, .int s.2.rules.wide, .int s.2.rules.noball, .bool s.2.rules.freehit, .int s.2.rules.newball, .int s.2.rules.followon, .int s.2.rules.reviews, .int s.2.rules.outside, .rows s.2.rules.power, .int s.2.stage, .int s.2.first, .bool s.2.follow, .rows (AP s.2.inns), .int s.2.pen1, .int s.2.pen2, .int s.2.win, .int s.2.wside, .int s.2.margin])
    (body := Ut L) (fin := fun s => .int 1 :: .rows s.1 :: s.2.ls) (fun i s => StepOk (⟨r0, r1, r2, r3, r4, r5, r6, r7, r8, r9, r10, r11, r12, r13⟩ : Rul) s.2 ∧ s.1.length ≤ i) ?_ ?_ L.length 0 ([], (⟨⟨m0, m1, m2, m3, m4, m5, m6, m7, m8, m9, m10, m11, m12, m13⟩, m14, m15, m16, m17, m18, m19, m20, m21, m22⟩ : Mat)) N (by omega) (by omega) ⟨ok, Nat.zero_le _⟩) ?_
  · intro m self _
    simp only [PXb, PXc, PXn, AB, Ao]
    rfl
  · intro i s self hi ok
    obtain ⟨out, ⟨⟨a0, a1, a2, a3, a4, a5, a6, a7, a8, a9, a10, a11, a12, a13⟩, a14, a15, a16, a17, a18, a19, a20, a21, a22⟩⟩ := s
    obtain ⟨ok, hout⟩ := ok
    have o1 := ok.rules
    have o2 := ok.fit
    have o3 := ok.len
    simp only at o1 o2 o3 hout
    cases o1
    have kp := ir ok (i : Int) (evR L i)
    have acc := wg (m := (⟨⟨r0, r1, r2, r3, r4, r5, r6, r7, r8, r9, r10, r11, r12, r13⟩, a14, a15, a16, a17, a18, a19, a20, a21, a22⟩ : Mat)) (i := (i : Int)) (e := evR L i)
    refine ⟨?_, ?_⟩
    · simp only [PXb, PXc, PXn, AB, AQ (show i ≤ 1099511627776 by omega), Ah hi, AO hi, QM, u9 hN o2 (show a17.length ≤ 1000000 by omega) hs h13, BI, fV, Nat.reduceAdd, PXk, PXc, vi, List.length_append, List.length_cons, List.length_nil, KG]
      unfold Ut
      simp only
      generalize hT : Aw (i : Int) (⟨⟨r0, r1, r2, r3, r4, r5, r6, r7, r8, r9, r10, r11, r12, r13⟩, a14, a15, a16, a17, a18, a19, a20, a21, a22⟩ : Mat) (evR L i) = T at acc
      obtain ⟨⟨⟨b0, b1, b2, b3, b4, b5, b6, b7, b8, b9, b10, b11, b12, b13⟩, b14, b15, b16, b17, b18, b19, b20, b21, b22⟩, l2⟩ := T
      simp only at acc
      simp only
      cases hl2 : l2 == 0
      case false => rfl
      have hk0 : (evR L i).kind = atI L i 0 := rfl
      rw [hk0]
      simp only [PXb]
      cases hk : atI L i 0 == 4
      case false => rfl
      have ha := (acc hl2).1
      have hd := zB (m := (⟨⟨r0, r1, r2, r3, r4, r5, r6, r7, r8, r9, r10, r11, r12, r13⟩, a14, a15, a16, a17, a18, a19, a20, a21, a22⟩ : Mat)) (e := evR L i) o3 (by rw [← ha]; exact hl2) hk (congrArg Prod.fst ha).symm
      simp only at hd
      have h216 : iSm ((out.length + 1 : Nat) : Int) 216 = true := Dd (by omega) (by omega)
      simp only [PXb, PXc, kb hd.1 hd.2, h216]
      rfl
    · intro s' h
      unfold Ut at h
      simp only at h
      cases hq : (Aw (i : Int) (⟨⟨r0, r1, r2, r3, r4, r5, r6, r7, r8, r9, r10, r11, r12, r13⟩, a14, a15, a16, a17, a18, a19, a20, a21, a22⟩ : Mat) (evR L i)).2 == 0 with
      | false => rw [hq] at h; cases h
      | true =>
        rw [hq] at h; cases h
        refine ⟨kp, ?_⟩
        cases (evR L i).kind == 4 with
        | false => show out.length ≤ _; omega
        | true => show (out ++ [_]).length ≤ _; rw [List.length_append]; simp; omega
  · rw [oB]
    have he := i4 L L.length 0 (⟨⟨m0, m1, m2, m3, m4, m5, m6, m7, m8, m9, m10, m11, m12, m13⟩, m14, m15, m16, m17, m18, m19, m20, m21, m22⟩ : Mat)
    simp only
    generalize Wu L L.length 0 (⟨⟨m0, m1, m2, m3, m4, m5, m6, m7, m8, m9, m10, m11, m12, m13⟩, m14, m15, m16, m17, m18, m19, m20, m21, m22⟩ : Mat) [] = out
    generalize Cz L L.length 0 (⟨⟨m0, m1, m2, m3, m4, m5, m6, m7, m8, m9, m10, m11, m12, m13⟩, m14, m15, m16, m17, m18, m19, m20, m21, m22⟩ : Mat) = f at he
    obtain ⟨⟨⟨a0, a1, a2, a3, a4, a5, a6, a7, a8, a9, a10, a11, a12, a13⟩, a14, a15, a16, a17, a18, a19, a20, a21, a22⟩, b, l⟩ := f
    simp only at he
    unfold vJ
    cases hb : b == -1 with
    | false => rfl
    | true =>
      rw [he hb, beq_iff_eq.1 hb]
      rfl
end Go.Px
end
section
namespace Go.Px
set_option maxRecDepth 100000
theorem dZ {N : Nat} {r1 r2 r3 r4 r5 r6 r7 r9 r10 r11 r12 : Int} {r8 : Bool} {r0 : ByteArray} {r13 : Rows} {L : Rows} (hN : 2097152 < N) (hs : r0.size ≤ 1048576) (h13 : r13.length ≤ 1048576) (hL : L.length ≤ 1048576) : FQ N [.str r0, .int r1, .int r2, .int r3, .int r4, .int r5, .int r6, .int r7, .bool r8, .int r9, .int r10, .int r11, .int r12, .rows r13, .rows L] = some (Tg (Bq (⟨r0, r1, r2, r3, r4, r5, r6, r7, r8, r9, r10, r11, r12, r13⟩ : Rul) L)) := by
 show KV (std (FD N) N) (xOf _) = _
 generalize hres : (some (Tg (Bq (⟨r0, r1, r2, r3, r4, r5, r6, r7, r8, r9, r10, r11, r12, r13⟩ : Rul) L)) : Option (List PV)) = RR
 simp only [KV, ZC, std, xOf, PXb, uC hN hs h13 hL]
 subst hres
 rfl
theorem ed {N : Nat} {r1 r2 r3 r4 r5 r6 r7 r9 r10 r11 r12 : Int} {r8 : Bool} {r0 : ByteArray} {r13 : Rows} {L : Rows} (hN : 2097152 < N) (hs : r0.size ≤ 1048576) (h13 : r13.length ≤ 1048576) (hL : L.length ≤ 1048576) : FV N [.str r0, .int r1, .int r2, .int r3, .int r4, .int r5, .int r6, .int r7, .bool r8, .int r9, .int r10, .int r11, .int r12, .rows r13, .rows L] = some (Tg (Bq (⟨r0, r1, r2, r3, r4, r5, r6, r7, r8, r9, r10, r11, r12, r13⟩ : Rul) L)) := by
 show KZ (std (Dr N) N) (xOf _) = _
 generalize hres : (some (Tg (Bq (⟨r0, r1, r2, r3, r4, r5, r6, r7, r8, r9, r10, r11, r12, r13⟩ : Rul) L)) : Option (List PV)) = RR
 simp only [KZ, aC, Ns, std, xOf, PXb, wO hN hs h13]
 subst hres; simp only [Bq]
 have nk := mq (⟨r0, r1, r2, r3, r4, r5, r6, r7, r8, r9, r10, r11, r12, r13⟩ : Rul)
 generalize Cf (⟨r0, r1, r2, r3, r4, r5, r6, r7, r8, r9, r10, r11, r12, r13⟩ : Rul) = X at nk
 obtain ⟨⟨⟨m0, m1, m2, m3, m4, m5, m6, m7, m8, m9, m10, m11, m12, m13⟩, m14, m15, m16, m17, m18, m19, m20, m21, m22⟩, l⟩ := X
 simp only at nk
 simp only [PXb, PXc, PXk, Nat.reduceAdd]
 cases hl : l == 0
 case false => rfl
 have ok := nk hl
 have o1 := ok.rules
 have o2 := ok.fit
 have o3 := ok.len
 simp only at o1 o2 o3
 cases o1
 simp only [PXb, Ns, tz hN o2 o3 hs h13 hL]
 rfl
theorem rz (L : Rows) : ∀ k i m, iLe 0 (Cz L k i m).2.1 = !((Cz L k i m).2.2 == 0) ∧ ((Cz L k i m).2.1 == -1) = ((Cz L k i m).2.2 == 0)
 | 0, _, _ => ⟨rfl, rfl⟩
 | k + 1, i, m => by
  unfold Cz
  cases hq : (Aw i m (evR L i)).2 == 0 with
  | false =>
   simp only [Bool.not_false, cond_true, hq]
   exact ⟨by simp only [iLe, decide_eq_true_eq]; omega, beq_false_of_ne (by omega)⟩
  | true => exact rz L k (i + 1) _
theorem kh (r : Rul) (L : Rows) : iLe 0 (Bq r L).2.1 = !((Bq r L).2.2 == 0) ∧ ((Bq r L).2.1 == -1) = ((Bq r L).2.2 == 0) := by
 unfold Bq
 cases (Cf r).2 == 0 with
 | false => exact ⟨rfl, rfl⟩
 | true => exact rz L L.length 0 _
def BD (r : Rul) (L : Rows) : Int := cond (!(A4 r == 0)) (A4 r) (cond (iLt 4000 (L.length : Int)) 9 (cond (!((Bq r L).2.2 == 0)) 10 0))
theorem MC {N : Nat} {r1 r2 r3 r4 r5 r6 r7 r9 r10 r11 r12 : Int} {r8 : Bool} {r0 : ByteArray} {r13 : Rows} {L : Rows} (hN : 2097152 < N) (hs : r0.size ≤ 1048576) (h13 : r13.length ≤ 1048576) (hL : L.length ≤ 1048576) : CW N [.str r0, .int r1, .int r2, .int r3, .int r4, .int r5, .int r6, .int r7, .bool r8, .int r9, .int r10, .int r11, .int r12, .rows r13, .rows L] = some [.int (BD (⟨r0, r1, r2, r3, r4, r5, r6, r7, r8, r9, r10, r11, r12, r13⟩ : Rul) L)] := by
 show MS (std (EX N) N) (xOf _) = _
 generalize hres : (some [.int (BD (⟨r0, r1, r2, r3, r4, r5, r6, r7, r8, r9, r10, r11, r12, r13⟩ : Rul) L)] : Option (List PV)) = RR
 simp only [MS, V9, X1, std, xOf, PXb, DX hN hs, dZ hN hs h13 hL, PXm]
 subst hres; simp only [BD]
 rfl
theorem XQ {N : Nat} {r1 r2 r3 r4 r5 r6 r7 r9 r10 r11 r12 : Int} {r8 : Bool} {r0 : ByteArray} {r13 : Rows} {L : Rows} (hN : 2097152 < N) (hs : r0.size ≤ 1048576) (h13 : r13.length ≤ 1048576) (hL : L.length ≤ 1048576) : D0 N [.str r0, .int r1, .int r2, .int r3, .int r4, .int r5, .int r6, .int r7, .bool r8, .int r9, .int r10, .int r11, .int r12, .rows r13, .rows L] = some [.int (BD (⟨r0, r1, r2, r3, r4, r5, r6, r7, r8, r9, r10, r11, r12, r13⟩ : Rul) L)] := by
 show MB (std (EZ N) N) (xOf _) = _
 generalize hres : (some [.int (BD (⟨r0, r1, r2, r3, r4, r5, r6, r7, r8, r9, r10, r11, r12, r13⟩ : Rul) L)] : Option (List PV)) = RR
 simp only [MB, YR, X4, std, xOf, PXb, E8 hN hs, ed hN hs h13 hL, PXm, Tg, PXc, (kh (⟨r0, r1, r2, r3, r4, r5, r6, r7, r8, r9, r10, r11, r12, r13⟩ : Rul) L).1]
 subst hres; simp only [BD]
def Cs (L : Rows) (n : Int) : Rows := (L.take n.toNat).drop (0 : Int).toNat
theorem oD (L : Rows) (n : Int) : (Cs L n).length ≤ L.length := by
 unfold Cs
 rw [List.length_drop, List.length_take]
 omega
structure LogOk (m : Mat) : Prop where
 fit : DH m.inns
 len : m.inns.length ≤ 5
 name : m.rules.name.size ≤ 1048576
 power : m.rules.power.length ≤ 1048576
end Go.Px
end
section
namespace Go.Px
set_option maxRecDepth 100000
def acc (L : Rows) : Nat → Nat → Mat → Prop
 | 0, _, _ => True
 | k + 1, i, m => ((Aw i m (evR L i)).2 == 0) = true ∧ acc L k (i + 1) (Aw i m (evR L i)).1
def stM (L : Rows) : Nat → Nat → Mat → Mat
 | 0, _, m => m
 | k + 1, i, m => stM L k (i + 1) (Aw i m (evR L i)).1
def yA (L : Rows) : Nat → Nat → Mat → Rows → Rows
 | 0, _, _, out => out
 | k + 1, i, m, out => yA L k (i + 1) (Aw i m (evR L i)).1 (cond ((evR L i).kind == 4) (out ++ [kn i m (Aw i m (evR L i)).1 (evR L i).ball]) out)
theorem rH (L : Rows) : ∀ K i m, ∃ k, k ≤ K ∧ acc L k i m ∧ (∀ out, Wu L K i m out = yA L k i m out) ∧
    ((k = K ∧ Cz L K i m = (stM L k i m, -1, 0)) ∨ (k < K ∧ ((Aw ((i + k : Nat) : Int) (stM L k i m) (evR L (i + k))).2 == 0) = false ∧ Cz L K i m = (stM L k i m, ((i + k : Nat) : Int), (Aw ((i + k : Nat) : Int) (stM L k i m) (evR L (i + k))).2)))
  | 0, i, m => ⟨0, Nat.le_refl _, trivial, fun _ => rfl, Or.inl ⟨rfl, rfl⟩⟩
  | K + 1, i, m => by
    cases hq : (Aw i m (evR L i)).2 == 0 with
    | false =>
      refine ⟨0, Nat.zero_le _, trivial, fun out => ?_, Or.inr ⟨Nat.succ_pos _, hq, ?_⟩⟩
      · simp only [Wu, hq, Bool.not_false, cond_true]; rfl
      · simp only [Cz, hq, Bool.not_false, cond_true]; rfl
    | true =>
      obtain ⟨k, h1, h2, h3, h4⟩ := rH L K (i + 1) (Aw i m (evR L i)).1
      refine ⟨k + 1, Nat.succ_le_succ h1, ⟨hq, h2⟩, fun out => ?_, ?_⟩
      · simp only [Wu, hq, Bool.not_true, cond_false]
        exact h3 _
      · have e : Cz L (K + 1) i m = Cz L K (i + 1) (Aw i m (evR L i)).1 := by simp only [Cz, hq, Bool.not_true, cond_false]
        rw [e, show i + (k + 1) = i + 1 + k by omega]
        rcases h4 with ⟨h5, h6⟩ | ⟨h5, h6⟩
        · exact Or.inl ⟨by omega, h6⟩
        · exact Or.inr ⟨by omega, h6⟩
theorem vq {L : Rows} : ∀ k j i m, j ≤ k → acc L k i m → acc L j i m
 | _, 0, _, _, _, _ => trivial
 | 0, j + 1, _, _, h, _ => absurd h (by omega)
 | k + 1, j + 1, i, m, h, ha => ⟨ha.1, vq k j (i + 1) _ (by omega) ha.2⟩
theorem ja (r : Rul) : ((Cf r).2 == 0) = (A4 r == 0) := by
 unfold Cf
 cases h : A4 r == 0 with
 | false => exact h
 | true => rfl
theorem yD {r : Rul} {L : Rows} : ∀ k i m, StepOk r m → StepOk r (stM L k i m)
 | 0, _, _, h => h
 | k + 1, i, m, h => yD k (i + 1) _ (ir h _ _)
theorem qt {L : Rows} : ∀ k i m, stM L (k + 1) i m = (Aw ((i + k : Nat) : Int) (stM L k i m) (evR L (i + k))).1
 | 0, i, m => rfl
 | k + 1, i, m => by
  show stM L (k + 1) (i + 1) _ = _
  rw [qt k (i + 1), show i + 1 + k = i + (k + 1) by omega]
  rfl
end Go.Px
end
section
namespace Go.Px
set_option maxRecDepth 100000
def pf (xs ys : List Inn) : Bool := ((xs.length : Int) == (ys.length : Int)) && !Am (fun i => !fR (inn xs i) (inn ys i)) xs.length 0
def fQ (x y : Mat) : Bool := x.stage == y.stage && (x.first == y.first && (x.follow == y.follow && (x.pen1 == y.pen1 && (x.pen2 == y.pen2 && (x.win == y.win && (x.wside == y.wside && (x.margin == y.margin && pf x.inns y.inns)))))))
theorem S0 {N : Nat} {xs ys : List Inn} (hN : 2097152 < N) (hf : DH xs) (hl : xs.length ≤ 1000000) : B0 N [.rows (AP xs), .rows (AP ys)] = some [.bool (pf xs ys)] := by
 show Bv (std (BF N) N) (xOf _) = _
 simp only [Bv, DZ, std, xOf, PXb, PXi]
 unfold pf
 cases hm : (xs.length : Int) == (ys.length : Int) with
 | false => rfl
 | true =>
  simp only [PXb, PXc, PXn, AB]
  refine AK (Bj (len := xs.length) (fun i => !fR (inn xs i) (inn ys i)) [.bool false] ?_ ?_ N (by omega)) ?_
  ·intro self
   simp only [PXb, PXc, PXn, AB, Ao]
  ·intro i self hi
   simp only [PXb, PXc, PXn, AB, AQ (show i ≤ 1099511627776 by omega), Ah hi, AO hi, fe hm hi, PXi, Nat.reduceAdd, DZ, mb (hf i hi) hN]
  ·cases Am (fun i => !fR (inn xs i) (inn ys i)) xs.length 0 <;> rfl
theorem px {N : Nat} {m1 m2 m3 m4 m5 m6 m7 m9 m10 m11 m12 m14 m15 m18 m19 m20 m21 m22 : Int} {m8 m16 : Bool} {m0 : ByteArray} {m13 : Rows} {m17 : List Inn} {k1 k2 k3 k4 k5 k6 k7 k9 k10 k11 k12 k14 k15 k18 k19 k20 k21 k22 : Int} {k8 k16 : Bool} {k0 : ByteArray} {k13 : Rows} {k17 : List Inn} (hN : 2097152 < N) (hr : (⟨k0, k1, k2, k3, k4, k5, k6, k7, k8, k9, k10, k11, k12, k13⟩ : Rul) = (⟨m0, m1, m2, m3, m4, m5, m6, m7, m8, m9, m10, m11, m12, m13⟩ : Rul)) (hf : DH m17) (hl : m17.length ≤ 1000000) (h13 : m13.length ≤ 1048576) : H0 N [.str m0, .int m1, .int m2, .int m3, .int m4, .int m5, .int m6, .int m7, .bool m8, .int m9, .int m10, .int m11, .int m12, .rows m13, .int m14, .int m15, .bool m16, .rows (AP m17), .int m18, .int m19, .int m20, .int m21, .int m22, .str k0, .int k1, .int k2, .int k3, .int k4, .int k5, .int k6, .int k7, .bool k8, .int k9, .int k10, .int k11, .int k12, .rows k13, .int k14, .int k15, .bool k16, .rows (AP k17), .int k18, .int k19, .int k20, .int k21, .int k22] = some [.bool (fQ (⟨⟨m0, m1, m2, m3, m4, m5, m6, m7, m8, m9, m10, m11, m12, m13⟩, m14, m15, m16, m17, m18, m19, m20, m21, m22⟩ : Mat) (⟨⟨k0, k1, k2, k3, k4, k5, k6, k7, k8, k9, k10, k11, k12, k13⟩, k14, k15, k16, k17, k18, k19, k20, k21, k22⟩ : Mat))] := by
 cases hr
 show KQ (std (Ds N) N) (xOf _) = _
 simp only [KQ, Vy, J3, std, xOf, PXb, f5 hN h13, S0 hN hf hl]
 unfold fQ
 dsimp only
 cases m14 == k14 <;> try rfl
 cases m15 == k15 <;> try rfl
 cases m16 == k16 <;> try rfl
 cases m18 == k18 <;> try rfl
 cases m19 == k19 <;> try rfl
 cases m20 == k20 <;> try rfl
 cases m21 == k21 <;> try rfl
 cases m22 == k22 <;> try rfl
end Go.Px
end
section
namespace Go.Px
set_option maxRecDepth 100000
def fwd (S : Nat → Bool) : Nat → Int × Int × Bool
 | 0 => (0, 0, true)
 | i + 1 => cond (S (i + 1)) (cond (fwd S i).2.2 ((i + 1 : Nat) : Int) (fwd S i).1, (fwd S i).2.1, (fwd S i).2.2) ((fwd S i).1, ((i + 2 : Nat) : Int), false)
def kV (r : Rul) (A B : Rows) (j : Nat) : Bool := fQ (stM A j 0 (Cf r).1) (stM B j 0 (Cf r).1)
def rE (r : Rul) (A B : Rows) : Int × Int × Int :=
 cond (!(BD r A == 0)) (0, 0, BD r A) (cond (!(BD r B == 0)) (0, 0, BD r B) (cond (!((A.length : Int) == (B.length : Int))) (0, 0, 1) ((fwd (kV r A B) A.length).1, (fwd (kV r A B) A.length).2.1, 0)))
theorem nY {r : Rul} {L : Rows} (h : (BD r L == 0) = true) : (A4 r == 0) = true ∧ acc L L.length 0 (Cf r).1 := by
 unfold BD at h
 cases hc : A4 r == 0 with
 | false => rw [hc] at h; exact absurd (show (A4 r == 0) = true from h) (by rw [hc]; decide)
 | true =>
  rw [hc] at h
  cases h4 : iLt 4000 (L.length : Int) with
  | true => rw [h4] at h; cases h
  | false =>
   rw [h4] at h
   obtain ⟨k, h1, h2, _, h5⟩ := rH L L.length 0 (Cf r).1
   have hr : Bq r L = Cz L L.length 0 (Cf r).1 := by unfold Bq; rw [ja, hc]; rfl
   rcases h5 with ⟨h6, _⟩ | ⟨_, h6, h7⟩
   ·subst h6; exact ⟨rfl, h2⟩
   ·rw [hr, h7] at h
    simp only [h6] at h
    cases h
theorem oA {St : Type} {body : Nat → St → List PV ⊕ St} {fin : St → List PV} (I : Nat → St → Prop) (nx : Nat → St → St) (hb : ∀ i s, body i s = .inr (nx i s)) (hI : ∀ i s, I i s → I (i + 1) (nx i s)) :
    ∀ k i s, I i s → ∃ s', I (i + k) s' ∧ UV body fin k i s = fin s'
  | 0, i, s, h => ⟨s, h, rfl⟩
  | k + 1, i, s, h => by
    obtain ⟨s', h1, h2⟩ := oA I nx hb hI k (i + 1) (nx i s) (hI i s h)
    refine ⟨s', by rw [show i + (k + 1) = i + 1 + k by omega]; exact h1, ?_⟩
    simp only [UV, hb]
    exact h2
def xh (A B : Rows) (i : Nat) (s : Mat × Mat × Int × Int × Bool) : Mat × Mat × Int × Int × Bool :=
  ((CY s.1 (evR A i)).1, (CY s.2.1 (evR B i)).1, cond (fQ (CY s.1 (evR A i)).1 (CY s.2.1 (evR B i)).1) (cond s.2.2.2.2 ((i + 1 : Nat) : Int) s.2.2.1, s.2.2.2.1, s.2.2.2.2) (s.2.2.1, ((i + 2 : Nat) : Int), false))
theorem ZK {L : Rows} {m : Mat} {i : Nat} (h : acc L L.length 0 m) (hi : i < L.length) : stM L (i + 1) 0 m = (CY (stM L i 0 m) (evR L i)).1 := by
 have h1 := vq L.length (i + 1) 0 m hi h
 have h2 : ∀ k j x, acc L (k + 1) j x → ((Aw ((j + k : Nat) : Int) (stM L k j x) (evR L (j + k))).2 == 0) = true := by
  intro k
  induction k with
  | zero => intro j x hx; exact hx.1
  | succ k ih =>
   intro j x hx
   have := ih (j + 1) _ hx.2
   rw [show j + 1 + k = j + (k + 1) by omega] at this
   exact this
 have h3 := h2 i 0 m h1
 rw [qt i 0 m, Nat.zero_add]
 rw [Nat.zero_add] at h3
 rw [(wg h3).1]
set_option maxHeartbeats 8000000 in
theorem ip {N : Nat} {r1 r2 r3 r4 r5 r6 r7 r9 r10 r11 r12 : Int} {r8 : Bool} {r0 : ByteArray} {r13 : Rows} {A B : Rows} (hN : 2097152 < N) (hs : r0.size ≤ 1048576) (h13 : r13.length ≤ 1048576) (hA : A.length ≤ 1000000) (hB : B.length ≤ 1000000) : Ff N [.str r0, .int r1, .int r2, .int r3, .int r4, .int r5, .int r6, .int r7, .bool r8, .int r9, .int r10, .int r11, .int r12, .rows r13, .rows A, .rows B] = some (Zd (rE (⟨r0, r1, r2, r3, r4, r5, r6, r7, r8, r9, r10, r11, r12, r13⟩ : Rul) A B)) := by
  show Iq (std (CQ N) N) (xOf _) = _
  generalize hres : (some (Zd (rE (⟨r0, r1, r2, r3, r4, r5, r6, r7, r8, r9, r10, r11, r12, r13⟩ : Rul) A B)) : Option (List PV)) = RR
  simp only [Iq, Sq, Sb, H1, IC, IG, std, xOf, PXb, MC hN hs h13 (show A.length ≤ 1048576 by omega), MC hN hs h13 (show B.length ≤ 1048576 by omega), il hN hs h13]
  subst hres
  unfold rE
  cases ha : BD (⟨r0, r1, r2, r3, r4, r5, r6, r7, r8, r9, r10, r11, r12, r13⟩ : Rul) A == 0
  case false => simp only [PXb, ha]; rfl
  cases hb : BD (⟨r0, r1, r2, r3, r4, r5, r6, r7, r8, r9, r10, r11, r12, r13⟩ : Rul) B == 0
  case false => simp only [PXb, ha, hb]; rfl
  cases hl : (A.length : Int) == (B.length : Int)
  case false => simp only [PXb, ha, hb, hl]; rfl
  obtain ⟨hc, aa⟩ := nY ha
  obtain ⟨_, ab⟩ := nY hb
  have hlen := beq_iff_eq.1 hl
  have okm := mq (⟨r0, r1, r2, r3, r4, r5, r6, r7, r8, r9, r10, r11, r12, r13⟩ : Rul) ((ja (⟨r0, r1, r2, r3, r4, r5, r6, r7, r8, r9, r10, r11, r12, r13⟩ : Rul)).trans hc)
  have n2 : ((Cf (⟨r0, r1, r2, r3, r4, r5, r6, r7, r8, r9, r10, r11, r12, r13⟩ : Rul)).2 == 0) = true := (ja (⟨r0, r1, r2, r3, r4, r5, r6, r7, r8, r9, r10, r11, r12, r13⟩ : Rul)).trans hc
  have o1 := okm.rules
  have on := fun L i => yD (L := L) i 0 _ okm
  simp only [PXb, PXc, ha, hb, hl, G7, n2, Nat.reduceAdd, H1, bn okm.fit hN (Nat.le_trans okm.len (show 5 ≤ 1000000 by omega)) (show (Cf (⟨r0, r1, r2, r3, r4, r5, r6, r7, r8, r9, r10, r11, r12, r13⟩ : Rul)).1.rules.power.length ≤ 1048576 by rw [o1]; exact h13)]
  refine AK (W8 (St := Mat × Mat × Int × Int × Bool) (len := A.length) (enc := fun i s => [.int s.2.2.1, .int s.2.2.2.1, .bool s.2.2.2.2, .int (i : Int), .str s.1.rules.name, .int s.1.rules.side, .int s.1.rules.innings, .int s.1.rules.overs, .int s.1.rules.balls, .int s.1.rules.quota, .int s.1.rules.wide, .int s.1.rules.noball, .bool s.1.rules.freehit, .int s.1.rules.newball, .int s.1.rules.followon, .int s.1.rules.reviews, .int s.1.rules.outside, .rows s.1.rules.power, .int s.1.stage, .int s.1.first, .bool s.1.follow, .rows (AP s.1.inns), .int s.1.pen1, .int s.1.pen2, .int s.1.win, .int s.1.wside, .int s.1.margin, .str s.2.1.rules.name, .int s.2.1.rules.side, .int s.2.1.rules.innings, .int s.2.1.rules.overs, .int s.2.1.rules.balls, .int s.2.1.rules.quota, .int s.2.1.rules.wide, .int s.2.1.rules.noball, .bool s.2.1.rules.freehit, .int s.2.1.rules.newball, .int s.2.1.rules.followon, .int s.2.1.rules.reviews, .int s.2.1.rules.outside, .rows s.2.1.rules.power, .int s.2.1.stage, .int s.2.1.first, .bool s.2.1.follow, .rows (AP s.2.1.inns), .int s.2.1.pen1, .int s.2.1.pen2, .int s.2.1.win, .int s.2.1.wside, .int s.2.1.margin])
    (body := fun i s => .inr (xh A B i s)) (fin := fun s => [.int s.2.2.1, .int s.2.2.2.1]) (fun i s => s.1 = stM A i 0 (Cf (⟨r0, r1, r2, r3, r4, r5, r6, r7, r8, r9, r10, r11, r12, r13⟩ : Rul)).1 ∧ s.2.1 = stM B i 0 (Cf (⟨r0, r1, r2, r3, r4, r5, r6, r7, r8, r9, r10, r11, r12, r13⟩ : Rul)).1) ?_ ?_ A.length 0 ((Cf (⟨r0, r1, r2, r3, r4, r5, r6, r7, r8, r9, r10, r11, r12, r13⟩ : Rul)).1, (Cf (⟨r0, r1, r2, r3, r4, r5, r6, r7, r8, r9, r10, r11, r12, r13⟩ : Rul)).1, 0, 0, true) N (by omega) (by omega) ⟨rfl, rfl⟩) ?_
  · intro s self _
    simp only [PXb, PXc, PXn, AB, Ao]
  · intro i s self hi hs2
    have ok1 := on A i
    have ok2 := on B i
    rw [← hs2.1] at ok1
    rw [← hs2.2] at ok2
    have hib : i < B.length := by omega
    have k1 := Zv ok1 (evR A i)
    have k2 := Zv ok2 (evR B i)
    have nm : ∀ x : Mat, x.rules = (⟨r0, r1, r2, r3, r4, r5, r6, r7, r8, r9, r10, r11, r12, r13⟩ : Rul) → x.rules.name.size ≤ 1048576 ∧ x.rules.power.length ≤ 1048576 := fun x hx => by rw [hx]; exact ⟨hs, h13⟩
    have w2 : IntKind.i64.wrap ((i : Int) + 2) = (i : Int) + 2 := DG (by omega) (by omega)
    refine ⟨?_, fun s' h => ?_⟩
    · simp only [PXb, PXc, PXn, AB, AQ (show i ≤ 1099511627776 by omega), w2, Ah hi, AO hi, AO hib, BI, fV, Nat.reduceAdd, IC, Uy hN ok1.fit (Nat.le_trans ok1.len (show 5 ≤ 1000000 by omega)) (nm _ ok1.rules).1 (nm _ ok1.rules).2, Uy hN ok2.fit (Nat.le_trans ok2.len (show 5 ≤ 1000000 by omega)) (nm _ ok2.rules).1 (nm _ ok2.rules).2, G7, PXc, vi,
        IG, px hN (k2.rules.trans k1.rules.symm) k1.fit (Nat.le_trans k1.len (show 5 ≤ 1000000 by omega)) (nm _ k1.rules).2]
      change (cond (fQ (CY s.1 (evR A i)).1 (CY s.2.1 (evR B i)).1) _ _) = _
      unfold xh
      cases fQ (CY s.1 (evR A i)).1 (CY s.2.1 (evR B i)).1
      · rfl
      · cases s.2.2.2.2 <;> rfl
    · cases h
      have a1 := ZK aa hi
      have a2 := ZK (i := i) ab hib
      exact ⟨by rw [a1, ← hs2.1]; rfl, by rw [a2, ← hs2.2]; rfl⟩
  · obtain ⟨s', h1, h2⟩ := oA (fin := fun s => [.int s.2.2.1, .int s.2.2.2.1]) (fun i s => i ≤ A.length → (s.1 = stM A i 0 (Cf (⟨r0, r1, r2, r3, r4, r5, r6, r7, r8, r9, r10, r11, r12, r13⟩ : Rul)).1 ∧ s.2.1 = stM B i 0 (Cf (⟨r0, r1, r2, r3, r4, r5, r6, r7, r8, r9, r10, r11, r12, r13⟩ : Rul)).1) ∧ s.2.2 = fwd (kV (⟨r0, r1, r2, r3, r4, r5, r6, r7, r8, r9, r10, r11, r12, r13⟩ : Rul) A B) i) (xh A B) (fun _ _ => rfl) (fun i s h hi => by
      obtain ⟨⟨e1, e2⟩, e3⟩ := h (by omega)
      have a1 := ZK (i := i) aa (by omega)
      have a2 := ZK (i := i) ab (by omega)
      refine ⟨⟨by rw [a1, ← e1]; rfl, by rw [a2, ← e2]; rfl⟩, ?_⟩
      rw [fwd, ← e3]
      unfold kV
      rw [a1, a2, ← e1, ← e2]
      rfl) A.length 0 ((Cf (⟨r0, r1, r2, r3, r4, r5, r6, r7, r8, r9, r10, r11, r12, r13⟩ : Rul)).1, (Cf (⟨r0, r1, r2, r3, r4, r5, r6, r7, r8, r9, r10, r11, r12, r13⟩ : Rul)).1, 0, 0, true) (fun _ => ⟨⟨rfl, rfl⟩, rfl⟩)
    rw [h2]
    rw [Nat.zero_add] at h1
    have e3 := (h1 (Nat.le_refl _)).2
    rw [← e3]
    rfl
end Go.Px
end
