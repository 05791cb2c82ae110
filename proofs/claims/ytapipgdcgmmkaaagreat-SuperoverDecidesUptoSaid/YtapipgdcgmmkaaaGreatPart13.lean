/- Part 13. -/
import Derived.Test.YtapipgdcgmmkaaaGreatPart12
set_option linter.unusedVariables false
set_option linter.unusedSimpArgs false
section
namespace Go.Px
set_option maxRecDepth 100000
def lnx (xs : List Inn) : Nat := (IntKind.i64.wrap ((xs.length : Int) - 1)).toNat
def Cb (m : Mat) : Inn := inn m.inns (lnx m.inns)
theorem Oy {n : Nat} (h : ((n : Int) == 0) = false) (hl : n ≤ 1000000) : iIn (IntKind.i64.wrap ((n : Int) - 1)) (n : Int) = true := by
 rw [beq_eq_false_iff_ne] at h
 rw [FZ (by omega) (by omega)]
 simp only [iIn, decide_eq_true_eq]; omega
theorem f7 {xs : List Inn} (h : ((xs.length : Int) == 0) = false) (hl : xs.length ≤ 1000000) : lnx xs < xs.length := by
 rw [beq_eq_false_iff_ne] at h
 unfold lnx
 rw [FZ (by omega) (by omega)]
 omega
def WX (r : Rul) : Int := cond (r.overs == 0) 5 6
theorem JS {N : Nat} {r1 r2 r3 r4 r5 r6 r7 r9 r10 r11 r12 : Int} {r8 : Bool} {r0 : ByteArray} {r13 : Rows}  : Ba N [.str r0, .int r1, .int r2, .int r3, .int r4, .int r5, .int r6, .int r7, .bool r8, .int r9, .int r10, .int r11, .int r12, .rows r13] = some [.int (WX (⟨r0, r1, r2, r3, r4, r5, r6, r7, r8, r9, r10, r11, r12, r13⟩ : Rul))] := by
 show FX (std (Mx N) N) (xOf _) = _
 simp only [FX, std, xOf, PXb, PXc, PXn, PXm, Nat.reduceAdd, Int.reduceBEq, WX]
theorem Ri {N : Nat} {m1 m2 m3 m4 m5 m6 m7 m9 m10 m11 m12 m14 m15 m18 m19 m20 m21 m22 : Int} {m8 m16 : Bool} {m0 : ByteArray} {m13 : Rows} {m17 : List Inn} (h : ((m17.length : Int) == 0) = false) (hl : m17.length ≤ 1000000) : C0 N [.str m0, .int m1, .int m2, .int m3, .int m4, .int m5, .int m6, .int m7, .bool m8, .int m9, .int m10, .int m11, .int m12, .rows m13, .int m14, .int m15, .bool m16, .rows (AQ m17), .int m18, .int m19, .int m20, .int m21, .int m22] = some (inn m17 (lnx m17)).ls := by
 show ND (std (JV N) N) (xOf _) = _
 simp only [ND, std, xOf, PXb, PXc, PXn, PXm, Nat.reduceAdd, Int.reduceBEq, PXi, Oy h hl, lnx]
def kF (x : Int × Int × Int) : List PV := [.int x.1, .int x.2.1, .int x.2.2]
def L0 (m : Mat) : Int × Int × Int :=
  let n : Int := m.inns.length
  let most := IntKind.i64.wrap (2 * m.rules.innings)
  let x := Cb m
  cond (!Cs m || n == 0) (0, 0, 0) (cond (x.ending == 5) (WX m.rules, 0, 0) (cond (x.ending == 0) (0, 0, 0)
    (cond (n == most && iLe x.target x.runs) (2, x.side, IntKind.i64.wrap (IntKind.i64.wrap (m.rules.side - 1) - x.wickets)) (cond (n == most && x.runs == IntKind.i64.wrap (x.target - 1)) (4, 0, 0)
      (cond (n == most) (1, BZ x.side, IntKind.i64.wrap (IntKind.i64.wrap (x.target - 1) - x.runs))
        (cond (n == 3 && iLt (A6 m x.side) (A6 m (BZ x.side))) (3, BZ x.side, IntKind.i64.wrap (A6 m (BZ x.side) - A6 m x.side)) (0, 0, 0)))))))
set_option maxHeartbeats 4000000 in
theorem eh {N : Nat} {m1 m2 m3 m4 m5 m6 m7 m9 m10 m11 m12 m14 m15 m18 m19 m20 m21 m22 : Int} {m8 m16 : Bool} {m0 : ByteArray} {m13 : Rows} {m17 : List Inn} (hf : Da m17) (hN : 2097152 < N) (hl : m17.length ≤ 1000000) (hs : m0.size ≤ 1048576) : Fe N [.str m0, .int m1, .int m2, .int m3, .int m4, .int m5, .int m6, .int m7, .bool m8, .int m9, .int m10, .int m11, .int m12, .rows m13, .int m14, .int m15, .bool m16, .rows (AQ m17), .int m18, .int m19, .int m20, .int m21, .int m22] = some (kF (L0 (⟨⟨m0, m1, m2, m3, m4, m5, m6, m7, m8, m9, m10, m11, m12, m13⟩, m14, m15, m16, m17, m18, m19, m20, m21, m22⟩ : Mat))) := by
 show Iq (std (C2 N) N) (xOf _) = _
 generalize hres : (some (kF (L0 (⟨⟨m0, m1, m2, m3, m4, m5, m6, m7, m8, m9, m10, m11, m12, m13⟩, m14, m15, m16, m17, m18, m19, m20, m21, m22⟩ : Mat))) : Option (List PV)) = RR
 simp only [Iq, QI, Qg, Qk, Lz, std, xOf, PXb, PXi, Yd hf hN hl hs, Hz, JS, Q2 hN (show m17.length ≤ 1048576 by omega)]
 subst hres; simp only [L0, Cb, lnx]
 cases hv : Cs (⟨⟨m0, m1, m2, m3, m4, m5, m6, m7, m8, m9, m10, m11, m12, m13⟩, m14, m15, m16, m17, m18, m19, m20, m21, m22⟩ : Mat)
 case false => rfl
 cases h0 : (m17.length : Int) == 0
 case true => rfl
 simp only [PXb, Oy h0 hl]
 generalize inn m17 (IntKind.i64.wrap ((m17.length : Int) - 1)).toNat = x
 cases x.ending == 5
 case true => rfl
 cases x.ending == 0
 case true => rfl
 cases (m17.length : Int) == IntKind.i64.wrap (2 * m2) <;> cases iLe x.target x.runs <;> cases x.runs == IntKind.i64.wrap (x.target - 1) <;> try rfl
 all_goals (cases (m17.length : Int) == 3 <;> try rfl)
 all_goals (simp only [PXb]; cases iLt (A6 (⟨⟨m0, m1, m2, m3, m4, m5, m6, m7, m8, m9, m10, m11, m12, m13⟩, m14, m15, m16, m17, m18, m19, m20, m21, m22⟩ : Mat) x.side) (A6 (⟨⟨m0, m1, m2, m3, m4, m5, m6, m7, m8, m9, m10, m11, m12, m13⟩, m14, m15, m16, m17, m18, m19, m20, m21, m22⟩ : Mat) (BZ x.side)) <;> rfl)
set_option maxHeartbeats 4000000 in
theorem jS {N : Nat} {m1 m2 m3 m4 m5 m6 m7 m9 m10 m11 m12 m14 m15 m18 m19 m20 m21 m22 : Int} {m8 m16 : Bool} {m0 : ByteArray} {m13 : Rows} {m17 : List Inn} (hf : Da m17) (hN : 2097152 < N) (hl : m17.length ≤ 1000000) (hs : m0.size ≤ 1048576) : Hr N [.str m0, .int m1, .int m2, .int m3, .int m4, .int m5, .int m6, .int m7, .bool m8, .int m9, .int m10, .int m11, .int m12, .rows m13, .int m14, .int m15, .bool m16, .rows (AQ m17), .int m18, .int m19, .int m20, .int m21, .int m22] = some (kF (L0 (⟨⟨m0, m1, m2, m3, m4, m5, m6, m7, m8, m9, m10, m11, m12, m13⟩, m14, m15, m16, m17, m18, m19, m20, m21, m22⟩ : Mat))) := by
 show Hs (std (Bw N) N) (xOf _) = _
 generalize hres : (some (kF (L0 (⟨⟨m0, m1, m2, m3, m4, m5, m6, m7, m8, m9, m10, m11, m12, m13⟩, m14, m15, m16, m17, m18, m19, m20, m21, m22⟩ : Mat))) : Option (List PV)) = RR
 simp only [Hs, Tp, LC, KQ, KS, std, xOf, PXb, PXi, VX hf hN hl hs, F7, K9 hN (show m17.length ≤ 1048576 by omega)]
 subst hres; simp only [L0, Cb]
 cases hv : Cs (⟨⟨m0, m1, m2, m3, m4, m5, m6, m7, m8, m9, m10, m11, m12, m13⟩, m14, m15, m16, m17, m18, m19, m20, m21, m22⟩ : Mat)
 case false => rfl
 cases h0 : (m17.length : Int) == 0
 case true => rfl
 simp only [PXb, PXm, LC, Ri h0 hl, KQ, KS, F7, K9 hN (show m17.length ≤ 1048576 by omega)]
 generalize inn m17 (lnx m17) = x
 unfold WX
 cases x.ending == 5 <;> cases m3 == 0 <;> try rfl
 all_goals (cases x.ending == 0 <;> try rfl)
 all_goals (cases (m17.length : Int) == IntKind.i64.wrap (2 * m2) <;> cases iLe x.target x.runs <;> cases x.runs == IntKind.i64.wrap (x.target - 1) <;> try rfl)
 all_goals (cases (m17.length : Int) == 3 <;> try rfl)
 all_goals (simp only [PXb]; cases iLt (A6 (⟨⟨m0, m1, m2, m3, m4, m5, m6, m7, m8, m9, m10, m11, m12, m13⟩, m14, m15, m16, m17, m18, m19, m20, m21, m22⟩ : Mat) x.side) (A6 (⟨⟨m0, m1, m2, m3, m4, m5, m6, m7, m8, m9, m10, m11, m12, m13⟩, m14, m15, m16, m17, m18, m19, m20, m21, m22⟩ : Mat) (BZ x.side)) <;> rfl)
theorem ke : ∀ (n k : Nat) (f : Nat → Nat), (∀ i, i < k → 1 ≤ f i ∧ f i ≤ n) → (∀ i j, i < j → j < k → f i ≠ f j) → k ≤ n
 | 0, k, f, h, _ => by
  rcases Nat.eq_zero_or_pos k with e | e
  ·omega
  ·have := h 0 e; omega
 | n + 1, 0, f, _, _ => by omega
 | n + 1, k + 1, f, h, hi => by
  by_cases he : ∃ j, j < k + 1 ∧ f j = n + 1
  ·obtain ⟨j, hj, hfj⟩ := he
   have := ke n k (fun i => if i = j then f k else f i) (fun i hik => by
    show 1 ≤ (if i = j then f k else f i) ∧ (if i = j then f k else f i) ≤ n
    by_cases e : i = j
    ·rw [if_pos e]
     have h1 := h k (by omega)
     have : f k ≠ f j := fun e2 => hi j k (by omega) (by omega) e2.symm
     omega
    ·rw [if_neg e]
     have h1 := h i (by omega)
     have : f i ≠ f j := by
      rcases Nat.lt_or_gt_of_ne e with e2 | e2
      ·exact hi i j e2 hj
      ·exact fun e3 => hi j i e2 (by omega) e3.symm
     omega) (fun a b hab hb => by
    show (if a = j then f k else f a) ≠ (if b = j then f k else f b)
    by_cases e1 : a = j
    ·have e2 : b ≠ j := by omega
     rw [if_pos e1, if_neg e2]
     exact fun e3 => hi b k hb (by omega) e3.symm
    ·rw [if_neg e1]
     by_cases e2 : b = j
     ·rw [if_pos e2]; exact hi a k (by omega) (by omega)
     ·rw [if_neg e2]; exact hi a b hab (by omega))
   omega
  ·have := ke n (k + 1) f (fun i hik => by
    have h1 := h i hik
    have : f i ≠ n + 1 := fun e => he ⟨i, hik, e⟩
    omega) hi
   omega
theorem mh {L : Rows} {n : Int} (h : Fy L n = true) (hn : 0 ≤ n) : (L.length : Int) ≤ n := by
 unfold Fy at h
 rw [Bool.not_eq_true', J4] at h
 have hb : ∀ i, i < L.length → 1 ≤ atI L i 0 ∧ atI L i 0 ≤ n := fun i hi => by
  have := h i (by omega) (by omega)
  unfold J3 at this
  rw [Bool.or_eq_false_iff, Bool.not_eq_false', bB] at this
  exact this.1
 have := ke n.toNat L.length (fun i => (atI L i 0).toNat) (fun i hi => by have := hb i hi; show 1 ≤ (atI L i 0).toNat ∧ (atI L i 0).toNat ≤ n.toNat; omega) (fun i j hij hj => by
  show (atI L i 0).toNat ≠ (atI L j 0).toNat
  have h1 := hb i (by omega)
  have h2 := hb j hj
  have h3 := h j (by omega) (by omega)
  unfold J3 at h3
  rw [Bool.or_eq_false_iff] at h3
  have h4 := J4.1 h3.2 i (by omega) (by omega)
  rw [beq_eq_false_iff_ne] at h4
  omega)
 omega
theorem SH {r : Rul} {s : Inn} (h : GZ r s = true) : s.bowlers.length ≤ 11 ∧ s.before.length ≤ 11 ∧ s.Fit := by
 have ok := qY.1 h
 have hs := sX ok
 have h1 := mh ok.dw (by omega)
 have h2 := mh ok.df (by omega)
 have h3 := ok.lb
 have h4 := ok.ld
 have h5 := ok.lz
 exact ⟨by omega, by omega, by omega, by omega, by omega, by omega, by omega⟩
end Go.Px
end
section
namespace Go.Px
set_option maxRecDepth 100000
def XZ (m : Mat) (e : Ev) : Mat × Int :=
  let sd := DW m (m.inns.length : Int)
  let b := Bi m.rules sd (Gt m sd) (cond (sd == 2) m.pen2 m.pen1)
  let t := DD m.rules b.1 e
  cond (!(b.2 == 0)) (m, 1) (cond (!(t.2 == 0)) (m, t.2)
    ({ m with stage := 3, inns := m.inns ++ [t.1], pen1 := cond (sd == 1) 0 m.pen1, pen2 := cond (sd == 2) 0 m.pen2 }, 0))
def Rw (xs : List Inn) (sd : Int) : Nat → Option Nat
 | 0 => none
 | k + 1 => cond ((inn xs k).side == sd) (some k) (Rw xs sd k)
def LB (m : Mat) (sd : Int) : Mat := match Rw m.inns sd m.inns.length with
 | some k => { m with inns := m.inns.set k (Mw (inn m.inns k)) }
 | none => { m with pen1 := cond (sd == 1) (IntKind.i64.wrap (m.pen1 + 5)) m.pen1, pen2 := cond (sd == 2) (IntKind.i64.wrap (m.pen2 + 5)) m.pen2 }
def ei (m : Mat) (e : Ev) : Mat × Int :=
 let t := DD m.rules (Cb m) e
 cond (!(t.2 == 0)) (m, t.2) (cond (e.kind == 13 && !(e.side == t.1.side)) (LB { m with inns := m.inns.set (lnx m.inns) t.1 } e.side) { m with inns := m.inns.set (lnx m.inns) t.1 }, 0)
def j5 (m : Mat) : Mat := { m with inns := cond (m.stage == 3) (m.inns.set (lnx m.inns) { Cb m with ending := 5 }) m.inns, stage := 5, win := WX m.rules, wside := 0, margin := 0 }
def NB (m : Mat) (e : Ev) : Mat × Int :=
  cond (e.kind == 1) (cond (!(m.stage == 1)) (m, 1) ({ m with first := cond e.yes e.side (BZ e.side), stage := 2 }, 0))
    (cond (e.kind == 2) (cond (!(m.stage == 2)) (m, 1) (XZ m e))
      (cond (e.kind == 12) (cond (!(m.stage == 4)) (m, 1) (cond (!(e.side == m.first)) (m, 2) ({ m with follow := e.yes, stage := 2 }, 0)))
        (cond (e.kind == 16) (j5 m, 0) (cond (!(m.stage == 3)) (m, 1) (ei m e)))))
def PI (m : Mat) : Mat :=
  let n : Int := m.inns.length
  let sd := (Cb m).side
  let o := L0 { m with stage := 5 }
  cond (n == IntKind.i64.wrap (2 * m.rules.innings) || (n == 3 && iLt (A6 m sd) (A6 m (BZ sd)))) { m with stage := 5, win := o.1, wside := o.2.1, margin := o.2.2 }
    (cond (n == 2 && iLt 0 m.rules.followon && iLe m.rules.followon (IntKind.i64.wrap (A6 m m.first - A6 m (BZ m.first)))) { m with stage := 4 } { m with stage := 2 })
def P9 (m : Mat) : Mat := cond (m.stage == 3 && !((Cb m).ending == 0)) (PI m) m
def M6 (m : Mat) (e : Ev) : Mat × Int :=
 cond (!Cs m || !(evS e == 0)) (m, 1) (cond (m.stage == 5) (m, 26) (cond (!((NB m e).2 == 0)) (m, (NB m e).2) (P9 (NB m e).1, 0)))
theorem bind_ok {X : Option (List PV)} {r : List PV} {k : List PV → Option (List PV)} {g : Option (List PV)} (h : X = some r) (hk : k r = g) : X.bind k = g := by rw [h]; exact hk
structure MatOk (m : Mat) : Prop where
 code : Aw m.rules = 0
 len : m.inns.length ≤ 4
 innv : ∀ i, i < m.inns.length → GZ m.rules (inn m.inns i) = true ∧ (inn m.inns i).side = DW m (i : Int)
 begun : (m.stage == 3) = true → ((m.inns.length : Int) == 0) = false
 toss : (m.stage == 2) = true → m.first = 1 ∨ m.first = 2
 room : (m.stage == 2) = true → (m.inns.length : Int) < 2 * m.rules.innings
 most : IntKind.i64.wrap (2 * m.rules.innings) = 2 * m.rules.innings ∧ (m.inns.length : Int) ≤ 2 * m.rules.innings
theorem fo {m : Mat} (h : Cs m = true) : MatOk m := by
 unfold Cs j9 at h
 simp only [Bool.and_eq_true, Bool.not_eq_true'] at h
 obtain ⟨⟨h1, h2, h3, h4, h5, h6, h7, h8, h9, h10⟩, h11, h12⟩ := h
 have hc := beq_iff_eq.1 h1
 have rk := (Jv hc).innings
 have e2 : IntKind.i64.wrap (2 * m.rules.innings) = 2 * m.rules.innings := FZ (by omega) (by omega)
 rw [e2] at h5 h8
 rw [Bool.or_eq_false_iff, Bool.or_eq_false_iff] at h5
 have hn := h5.2
 have hf1 := h5.1.1
 have hf2 := h5.1.2
 simp only [iLt, decide_eq_false_iff_not] at hn hf1 hf2
 refine ⟨hc, by omega, fun i hi => ?_, fun hs => ?_, fun hs => ?_, fun hs => ?_, e2, by omega⟩
 ·have := J4.1 h11 i (by omega) (by omega)
  unfold JZ at this
  rw [Bool.or_eq_false_iff, Bool.not_eq_false', Bool.not_eq_false', beq_iff_eq] at this
  exact this
 ·unfold WV at h12
  rw [hs, Bool.and_eq_true] at h12
  have := h12.2
  simp only [iLt, Bool.not_true, Bool.false_or, decide_eq_true_eq] at this
  exact beq_false_of_ne (by omega)
 ·rw [beq_iff_eq.1 hs] at h6
  cases h0 : m.first == 0 with
  | true => rw [h0] at h6; simp at h6
  | false =>
   rw [beq_eq_false_iff_ne] at h0
   omega
 ·rw [hs, Bool.true_and, beq_eq_false_iff_ne] at h8
  omega
theorem kh {m : Mat} (h : m.first = 1 ∨ m.first = 2) (i : Int) : DW m i = 1 ∨ DW m i = 2 := by
 unfold DW
 cases cond (m.follow && iLe 2 i) (i == 2) (i.tmod 2 == 1) with
 | false => exact h
 | true => rcases h with h | h <;> rw [h] <;> decide
theorem qZ {m : Mat} (h : MatOk m) : Da m.inns := fun i hi => (SH (h.innv i hi).1).2.2
theorem Ng {F : (List Ah → Option (List PV)) → List PV → Option (List PV)} {len : Nat} (enc : Nat → List Ah) (ans : Nat → Option (List PV))
    (h0 : ∀ self, F self ((enc len).map Leaf.pv) = some [.int 1]) (h1 : ∀ i self, i < len → F self ((enc i).map Leaf.pv) = match ans i with | some r => some (.int 0 :: r) | none => self (enc (i + 1))) :
    ∀ (k i n : Nat), i + k = len → k < n → HQ F n ((enc i).map Leaf.pv) = some (Rl (Bd ans k i))
  | 0, i, n, hk, hn => by
    obtain ⟨n, rfl⟩ : ∃ m, n = m + 1 := ⟨n - 1, by omega⟩
    obtain rfl : i = len := by omega
    exact h0 _
  | k + 1, i, n, hk, hn => by
    obtain ⟨n, rfl⟩ : ∃ m, n = m + 1 := ⟨n - 1, by omega⟩
    show F _ _ = _
    rw [h1 i _ (by omega)]
    simp only [Bd]
    cases ans i with
    | some r => rfl
    | none => exact Ng enc ans h0 h1 k (i + 1) n (by omega) (by omega)
theorem iH (ys : List Inn) (sd : Int) (g : Nat → List PV) (n : Nat) : ∀ k, k ≤ n → Bd (fun j => cond ((inn ys (n - 1 - j)).side == sd) (some (g (n - 1 - j))) none) k (n - k) = (Rw ys sd k).map g
 | 0, _ => rfl
 | k + 1, h => by
  have ih := iH ys sd g n k (by omega)
  have e : n - 1 - (n - (k + 1)) = k := by omega
  have e2 : n - (k + 1) + 1 = n - k := by omega
  simp only [Bd, Rw, e, e2, ih]
  cases (inn ys k).side == sd <;> rfl
theorem tE (xs : List Inn) (k : Nat) (s : Inn) (i : Nat) (hi : i < xs.length) : inn (xs.set k s) i = (if k = i then s else inn xs i) := by
 rw [SX, SX, List.getElem?_set]
 by_cases h : k = i
 ·subst h
  rw [if_pos rfl, if_pos rfl, if_pos hi]
 ·rw [if_neg h, if_neg h]
theorem TQ {xs : List Inn} {s : Inn} (k : Nat) (h : Da xs) (hs : s.Fit) : Da (xs.set k s) := fun i hi => by
 rw [List.length_set] at hi
 rw [tE xs k s i hi]
 by_cases e : k = i
 ·rw [if_pos e]; exact hs
 ·rw [if_neg e]; exact h i hi
theorem i5 {e : Ev} (h : (evS e == 0) = true) (hk : (e.kind == 13) = true) : e.side = 1 ∨ e.side = 2 := by
 have h0 := ar h
 rw [beq_iff_eq] at hk
 unfold evS at h
 rw [h0] at h
 cases h1 : ge e with
 | true => rw [h1] at h; cases h
 | false =>
  cases h2 : Zi e with
  | true => rw [h1, h2] at h; cases h
  | false =>
   unfold Zi at h2
   rw [Bool.or_eq_false_iff] at h2
   have h3 := h2.1
   rw [hk, show uS 13 = true from rfl, Bool.and_true] at h3
   simp only [btw, iLe, Bool.not_eq_false', Bool.and_eq_true, decide_eq_true_eq] at h3
   omega
theorem sg (xs : List Inn) (s : Inn) (i : Nat) (hi : i < xs.length + 1) : inn (xs ++ [s]) i = (if i < xs.length then inn xs i else s) := by
 rw [SX, SX]
 by_cases h : i < xs.length
 ·rw [if_pos h, List.getElem?_append_left h]
 ·have : i = xs.length := by omega
  subst this
  rw [if_neg h, List.getElem?_append_right (Nat.le_refl _), Nat.sub_self]
  rfl
theorem rQ {xs : List Inn} {s : Inn} (h : Da xs) (hs : s.Fit) : Da (xs ++ [s]) := fun i hi => by
 rw [List.length_append] at hi
 rw [sg xs s i hi]
 by_cases e : i < xs.length
 ·rw [if_pos e]; exact h i e
 ·rw [if_neg e]; exact hs
theorem gk (r : Rul) (a b c : Int) (e : Ev) : (DD r (Bi r a b c).1 e).1.Fit := by
 obtain ⟨f, h1, h2⟩ := Hf r a b c
 exact Kv (Ud r _ e) f (by rw [h1, h2]; exact Nat.zero_le _)
structure ActOk (m : Mat) (x : Mat × Int) : Prop where
 rules : x.1.rules = m.rules
 fit : Da x.1.inns
 len : x.1.inns.length ≤ 5
 some' : (x.2 == 0) = true → (x.1.stage == 3) = true → ((x.1.inns.length : Int) == 0) = false
theorem A_c {m : Mat} (b : Bool) (x y : Mat × Int) (hx : ActOk m x) (hy : ActOk m y) : ActOk m (cond b x y) := by cases b <;> assumption
theorem rA {m : Mat} (sd : Int) (hf : Da m.inns) : (LB m sd).rules = m.rules ∧ Da (LB m sd).inns ∧ (LB m sd).inns.length = m.inns.length ∧ (LB m sd).stage = m.stage := by
 unfold LB
 cases h : Rw m.inns sd m.inns.length with
 | none => exact ⟨rfl, hf, rfl, rfl⟩
 | some k =>
  have hk : k < m.inns.length := by
   have : ∀ n, Rw m.inns sd n = some k → k < n := by
    intro n
    induction n with
    | zero => intro h; cases h
    | succ n ih =>
     intro h
     unfold Rw at h
     cases hq : (inn m.inns n).side == sd with
     | true => rw [hq] at h; cases h; omega
     | false => rw [hq] at h; have := ih h; omega
   exact this _ h
  exact ⟨rfl, TQ k hf (tB (hf k hk)), List.length_set, rfl⟩
theorem lA {m : Mat} (ok : MatOk m) (e : Ev) : ActOk m (NB m e) := by
 have hf := qZ ok
 have hl := ok.len
 have self : ∀ n : Int, (n == 0) = false → ActOk m (m, n) := fun n hn => ⟨rfl, hf, by show m.inns.length ≤ 5; omega, fun h => by rw [hn] at h; cases h⟩
 unfold NB
 refine A_c _ _ _ (A_c _ _ _ (self 1 rfl) ⟨rfl, hf, by show m.inns.length ≤ 5; omega, fun _ h => by cases h⟩) (A_c _ _ _ ?_ (A_c _ _ _ ?_ (A_c _ _ _ ?_ ?_)))
 ·refine A_c _ _ _ (self 1 rfl) ?_
  unfold XZ
  refine A_c _ _ _ (self 1 rfl) ?_
  cases hq : (DD m.rules (Bi m.rules (DW m (m.inns.length : Int)) (Gt m (DW m (m.inns.length : Int))) (cond (DW m (m.inns.length : Int) == 2) m.pen2 m.pen1)).1 e).2 == 0 with
  | false =>
   simp only [Bool.not_false, cond_true]
   exact self _ hq
  | true =>
   simp only [Bool.not_true, cond_false]
   exact ⟨rfl, rQ hf (gk _ _ _ _ e), by simp; omega, fun _ _ => by
    show ((((m.inns ++ [_]).length : Nat) : Int) == 0) = false
    rw [List.length_append]
    exact beq_false_of_ne (by simp; omega)⟩
 ·exact A_c _ _ _ (self 1 rfl) (A_c _ _ _ (self 2 rfl) ⟨rfl, hf, by show m.inns.length ≤ 5; omega, fun _ h => by cases h⟩)
 ·unfold j5
  cases h3 : m.stage == 3 with
  | false => exact ⟨rfl, hf, by show m.inns.length ≤ 5; omega, fun _ h => by cases h⟩
  | true =>
   have h0 := ok.begun h3
   have fl := hf (lnx m.inns) (f7 h0 (by omega))
   exact ⟨rfl, TQ _ hf ⟨fl.bt, fl.bw, fl.bf, fl.bd, fl.sb⟩, by show (m.inns.set _ _).length ≤ 5; rw [List.length_set]; omega, fun _ h => by cases h⟩
 ·cases h3 : m.stage == 3 with
  | false => exact self 1 rfl
  | true =>
   have h0 := ok.begun h3
   have lv := SH (ok.innv (lnx m.inns) (f7 h0 (by omega))).1
   have h1 := lv.1
   have h2 := lv.2.1
   have ft := Kv (Ud m.rules (Cb m) e) lv.2.2 (show (inn m.inns (lnx m.inns)).before.length + (inn m.inns (lnx m.inns)).bowlers.length ≤ 1048575 by omega)
   simp only [Bool.not_true, cond_false, ei]
   cases hq : (DD m.rules (Cb m) e).2 == 0 with
   | false =>
    simp only [Bool.not_false, Bool.not_true, cond_true, cond_false]
    exact self _ hq
   | true =>
    have fs := TQ (lnx m.inns) hf ft
    have ln : (m.inns.set (lnx m.inns) (DD m.rules (Cb m) e).1).length = m.inns.length := List.length_set
    simp only [Bool.not_true, cond_false]
    cases (e.kind == 13 && !(e.side == (DD m.rules (Cb m) e).1.side)) with
    | false =>
     exact ⟨rfl, fs, by show (m.inns.set _ _).length ≤ 5; omega, fun _ _ => by
      show ((((m.inns.set _ _).length : Nat) : Int) == 0) = false
      rw [ln]; exact h0⟩
    | true =>
     obtain ⟨a1, a2, a3, a4⟩ := rA (m := { m with inns := m.inns.set (lnx m.inns) (DD m.rules (Cb m) e).1 }) e.side fs
     exact ⟨a1, a2, by show (LB _ _).inns.length ≤ 5; rw [a3]; show (m.inns.set _ _).length ≤ 5; omega, fun _ _ => by
      show ((((LB _ _).inns.length : Nat) : Int) == 0) = false
      rw [a3]
      show ((((m.inns.set _ _).length : Nat) : Int) == 0) = false
      rw [ln]; exact h0⟩
end Go.Px
end
section
namespace Go.Px
set_option maxRecDepth 100000
set_option maxHeartbeats 8000000 in
theorem kd {N : Nat} {m1 m2 m3 m4 m5 m6 m7 m9 m10 m11 m12 m14 m15 m18 m19 m20 m21 m22 : Int} {m8 m16 : Bool} {m0 : ByteArray} {m13 : Rows} {m17 : List Inn} {e0 e1 e2 e3 e5 e6 e7 e8 e9 e10 e11 e13 e14 e15 e16 e18 : Int} {e4 e12 e17 : Bool} (hN : 2097152 < N) (hf : Da m17) (hl : m17.length ≤ 1000000) (hs : m0.size ≤ 1048576) (h13 : m13.length ≤ 1048576) : Jg N [.str m0, .int m1, .int m2, .int m3, .int m4, .int m5, .int m6, .int m7, .bool m8, .int m9, .int m10, .int m11, .int m12, .rows m13, .int m14, .int m15, .bool m16, .rows (AQ m17), .int m18, .int m19, .int m20, .int m21, .int m22, .int e0, .int e1, .int e2, .int e3, .bool e4, .int e5, .int e6, .int e7, .int e8, .int e9, .int e10, .int e11, .bool e12, .int e13, .int e14, .int e15, .int e16, .bool e17, .int e18] = some (DB (M6 (⟨⟨m0, m1, m2, m3, m4, m5, m6, m7, m8, m9, m10, m11, m12, m13⟩, m14, m15, m16, m17, m18, m19, m20, m21, m22⟩ : Mat) (⟨e0, e1, e2, e3, e4, e5, e6, ⟨e7, e8, e9, e10, e11, e12, e13, e14, e15, e16, e17, e18⟩⟩ : Ev))) := by
 show Nb (std (A0 N) N) (xOf _) = _
 generalize hres : (some (DB (M6 (⟨⟨m0, m1, m2, m3, m4, m5, m6, m7, m8, m9, m10, m11, m12, m13⟩, m14, m15, m16, m17, m18, m19, m20, m21, m22⟩ : Mat) (⟨e0, e1, e2, e3, e4, e5, e6, ⟨e7, e8, e9, e10, e11, e12, e13, e14, e15, e16, e17, e18⟩⟩ : Ev))) : Option (List PV)) = RR
 simp only [Nb, S0, Ee, S8, TR, Ej, JU, H5, Dv, EH, Cp, C9, Gq, std, xOf, PXb, Yd hf hN hl hs, Xz hN, jd hf hN hl h13]
 subst hres; simp only [M6]
 cases hv : Cs (⟨⟨m0, m1, m2, m3, m4, m5, m6, m7, m8, m9, m10, m11, m12, m13⟩, m14, m15, m16, m17, m18, m19, m20, m21, m22⟩ : Mat)
 case false => rfl
 cases he : evS (⟨e0, e1, e2, e3, e4, e5, e6, ⟨e7, e8, e9, e10, e11, e12, e13, e14, e15, e16, e17, e18⟩⟩ : Ev) == 0
 case false => simp only [PXb, he]; rfl
 simp only [PXb, he]
 cases h5 : m14 == 5
 case true => rfl
 simp only [PXb]
 have ok := fo hv
 refine bind_ok (r := .int (NB (⟨⟨m0, m1, m2, m3, m4, m5, m6, m7, m8, m9, m10, m11, m12, m13⟩, m14, m15, m16, m17, m18, m19, m20, m21, m22⟩ : Mat) (⟨e0, e1, e2, e3, e4, e5, e6, ⟨e7, e8, e9, e10, e11, e12, e13, e14, e15, e16, e17, e18⟩⟩ : Ev)).2 :: (NB (⟨⟨m0, m1, m2, m3, m4, m5, m6, m7, m8, m9, m10, m11, m12, m13⟩, m14, m15, m16, m17, m18, m19, m20, m21, m22⟩ : Mat) (⟨e0, e1, e2, e3, e4, e5, e6, ⟨e7, e8, e9, e10, e11, e12, e13, e14, e15, e16, e17, e18⟩⟩ : Ev)).1.ls) ?_ ?_
 ·unfold NB
  cases hk1 : e0 == 1
  case true =>
   simp only [PXb, Ej, Hz]
   cases m14 == 1 <;> cases e4 <;> rfl
  cases hk2 : e0 == 2
  case true =>
   simp only [PXb]
   cases hs2 : m14 == 2
   case false => rfl
   have hl2 : m17.length ≤ 1048576 := by omega
   have h304 : iSm ((m17.length + 1 : Nat) : Int) 304 = true := Hn (by omega) (by omega)
   have fb := fun a b c => (Hf (⟨⟨m0, m1, m2, m3, m4, m5, m6, m7, m8, m9, m10, m11, m12, m13⟩, m14, m15, m16, m17, m18, m19, m20, m21, m22⟩ : Mat).rules a b c).1
   have wb : ∀ a b c, (Bi (⟨⟨m0, m1, m2, m3, m4, m5, m6, m7, m8, m9, m10, m11, m12, m13⟩, m14, m15, m16, m17, m18, m19, m20, m21, m22⟩ : Mat).rules a b c).1.before.length + (Bi (⟨⟨m0, m1, m2, m3, m4, m5, m6, m7, m8, m9, m10, m11, m12, m13⟩, m14, m15, m16, m17, m18, m19, m20, m21, m22⟩ : Mat).rules a b c).1.bowlers.length ≤ 1000000 := fun a b c => by
    rw [(Hf (⟨⟨m0, m1, m2, m3, m4, m5, m6, m7, m8, m9, m10, m11, m12, m13⟩, m14, m15, m16, m17, m18, m19, m20, m21, m22⟩ : Mat).rules a b c).2.1, (Hf (⟨⟨m0, m1, m2, m3, m4, m5, m6, m7, m8, m9, m10, m11, m12, m13⟩, m14, m15, m16, m17, m18, m19, m20, m21, m22⟩ : Mat).rules a b c).2.2]
    exact Nat.zero_le _
   rcases kh (m := (⟨⟨m0, m1, m2, m3, m4, m5, m6, m7, m8, m9, m10, m11, m12, m13⟩, m14, m15, m16, m17, m18, m19, m20, m21, m22⟩ : Mat)) (ok.toss hs2) (m17.length : Int) with ho | ho
   ·simp only [PXb, PXc, CF, Sd, Nat.reduceAdd, Int.reduceBEq, PXi, PXr, Inn.eta, AW, List.length_append, List.length_cons, List.length_nil, h304, XZ, Ee, EH, Dv, Cp, Qy, V2 hN hl2, UG hN hs, PM (fb _ _ _) (wb _ _ _) hN hs h13, ho, wr1, wr2, Uy, Vf]
    cases (Bi (⟨⟨m0, m1, m2, m3, m4, m5, m6, m7, m8, m9, m10, m11, m12, m13⟩, m14, m15, m16, m17, m18, m19, m20, m21, m22⟩ : Mat).rules 1 (Gt (⟨⟨m0, m1, m2, m3, m4, m5, m6, m7, m8, m9, m10, m11, m12, m13⟩, m14, m15, m16, m17, m18, m19, m20, m21, m22⟩ : Mat) 1) m18).2 == 0 <;> try rfl
    cases (DD (⟨⟨m0, m1, m2, m3, m4, m5, m6, m7, m8, m9, m10, m11, m12, m13⟩, m14, m15, m16, m17, m18, m19, m20, m21, m22⟩ : Mat).rules (Bi (⟨⟨m0, m1, m2, m3, m4, m5, m6, m7, m8, m9, m10, m11, m12, m13⟩, m14, m15, m16, m17, m18, m19, m20, m21, m22⟩ : Mat).rules 1 (Gt (⟨⟨m0, m1, m2, m3, m4, m5, m6, m7, m8, m9, m10, m11, m12, m13⟩, m14, m15, m16, m17, m18, m19, m20, m21, m22⟩ : Mat) 1) m18).1 (⟨e0, e1, e2, e3, e4, e5, e6, ⟨e7, e8, e9, e10, e11, e12, e13, e14, e15, e16, e17, e18⟩⟩ : Ev)).2 == 0 <;> rfl
   ·simp only [PXb, PXc, CF, Sd, Nat.reduceAdd, Int.reduceBEq, PXi, PXr, Inn.eta, AW, List.length_append, List.length_cons, List.length_nil, h304, XZ, Ee, EH, Dv, Cp, Qy, V2 hN hl2, UG hN hs, PM (fb _ _ _) (wb _ _ _) hN hs h13, ho, wr1, wr2, Uy, Vf]
    cases (Bi (⟨⟨m0, m1, m2, m3, m4, m5, m6, m7, m8, m9, m10, m11, m12, m13⟩, m14, m15, m16, m17, m18, m19, m20, m21, m22⟩ : Mat).rules 2 (Gt (⟨⟨m0, m1, m2, m3, m4, m5, m6, m7, m8, m9, m10, m11, m12, m13⟩, m14, m15, m16, m17, m18, m19, m20, m21, m22⟩ : Mat) 2) m19).2 == 0 <;> try rfl
    cases (DD (⟨⟨m0, m1, m2, m3, m4, m5, m6, m7, m8, m9, m10, m11, m12, m13⟩, m14, m15, m16, m17, m18, m19, m20, m21, m22⟩ : Mat).rules (Bi (⟨⟨m0, m1, m2, m3, m4, m5, m6, m7, m8, m9, m10, m11, m12, m13⟩, m14, m15, m16, m17, m18, m19, m20, m21, m22⟩ : Mat).rules 2 (Gt (⟨⟨m0, m1, m2, m3, m4, m5, m6, m7, m8, m9, m10, m11, m12, m13⟩, m14, m15, m16, m17, m18, m19, m20, m21, m22⟩ : Mat) 2) m19).1 (⟨e0, e1, e2, e3, e4, e5, e6, ⟨e7, e8, e9, e10, e11, e12, e13, e14, e15, e16, e17, e18⟩⟩ : Ev)).2 == 0 <;> rfl
  cases hk3 : e0 == 12
  case true =>
   simp only [PXb]
   cases m14 == 4 <;> cases e1 == m15 <;> rfl
  cases hk4 : e0 == 16
  case true =>
   simp only [PXb, j5]
   cases h3 : m14 == 3
   case false => simp only [PXb, PXc, PXi, PXr, CF, Nat.reduceAdd, C9, JS]; rfl
   simp only [PXb, PXc, PXi, PXr, CF, Nat.reduceAdd, Oy (ok.begun h3) hl, C9, JS]
   rfl
  simp only [PXb]
  cases h3 : m14 == 3
  case false => rfl
  have h0 := ok.begun h3
  have lv := SH (ok.innv (lnx m17) (f7 h0 hl)).1
  have fl : (inn m17 (IntKind.i64.wrap ((m17.length : Int) - 1)).toNat).Fit := lv.2.2
  have wl : (inn m17 (IntKind.i64.wrap ((m17.length : Int) - 1)).toNat).before.length + (inn m17 (IntKind.i64.wrap ((m17.length : Int) - 1)).toNat).bowlers.length ≤ 1000000 := by
   have h1 := lv.1
   have h2 := lv.2.1
   change (inn m17 (IntKind.i64.wrap ((m17.length : Int) - 1)).toNat).bowlers.length ≤ 11 at h1
   change (inn m17 (IntKind.i64.wrap ((m17.length : Int) - 1)).toNat).before.length ≤ 11 at h2
   omega
  have f1 := Kv (Ud (⟨⟨m0, m1, m2, m3, m4, m5, m6, m7, m8, m9, m10, m11, m12, m13⟩, m14, m15, m16, m17, m18, m19, m20, m21, m22⟩ : Mat).rules (inn m17 (IntKind.i64.wrap ((m17.length : Int) - 1)).toNat) (⟨e0, e1, e2, e3, e4, e5, e6, ⟨e7, e8, e9, e10, e11, e12, e13, e14, e15, e16, e17, e18⟩⟩ : Ev)) fl (by omega)
  simp only [PXb, PXc, PXi, PXr, AW, Inn.eta, CF, Nat.reduceAdd, List.length_set, Oy h0 hl, Cp, PM fl wl hN hs h13, ei, Cb, lnx]
  generalize hX : DD (⟨⟨m0, m1, m2, m3, m4, m5, m6, m7, m8, m9, m10, m11, m12, m13⟩, m14, m15, m16, m17, m18, m19, m20, m21, m22⟩ : Mat).rules (inn m17 (IntKind.i64.wrap ((m17.length : Int) - 1)).toNat) (⟨e0, e1, e2, e3, e4, e5, e6, ⟨e7, e8, e9, e10, e11, e12, e13, e14, e15, e16, e17, e18⟩⟩ : Ev) = X at f1
  have fy := TQ (IntKind.i64.wrap ((m17.length : Int) - 1)).toNat hf f1
  generalize hy : m17.set (IntKind.i64.wrap ((m17.length : Int) - 1)).toNat X.1 = ys at fy
  have ly : ys.length = m17.length := by rw [← hy, List.length_set]
  cases X.2 == 0 <;> try rfl
  cases h13k : e0 == 13
  case false => rfl
  cases hsd : e1 == X.1.side
  case true => rfl
  simp only [PXb, Option.bind_assoc]
  have e0w : IntKind.i64.wrap ((m17.length : Int) - 1) = (m17.length : Int) - 1 - ((0 : Nat) : Int) := by
   rw [beq_eq_false_iff_ne] at h0
   rw [FZ (by omega) (by omega)]; omega
  rw [e0w]
  have hside := i5 (e := (⟨e0, e1, e2, e3, e4, e5, e6, ⟨e7, e8, e9, e10, e11, e12, e13, e14, e15, e16, e17, e18⟩⟩ : Ev)) he h13k
  simp only at hside
  refine AN (Ng (len := m17.length) (fun j => [.int ((m17.length : Int) - 1 - (j : Int))]) (fun j => cond ((inn ys (m17.length - 1 - j)).side == e1) (some [PV.str m0, PV.int m1, PV.int m2, PV.int m3, PV.int m4, PV.int m5, PV.int m6, PV.int m7, PV.bool m8, PV.int m9, PV.int m10, PV.int m11, PV.int m12, PV.rows m13, PV.int m14, PV.int m15, PV.bool m16, PV.rows (AQ (ys.set (m17.length - 1 - j) (Mw (inn ys (m17.length - 1 - j))))), PV.int m18, PV.int m19, PV.int m20, PV.int m21, PV.int m22]) none) ?_ ?_ m17.length 0 N (by omega) (by omega)) ?_
  ·intro self
   have q1 : iLe 0 ((m17.length : Int) - 1 - (m17.length : Int)) = false := by simp only [iLe, decide_eq_false_iff_not]; omega
   simp only [PXb, q1]
  ·intro i self hi
   have q1 : iLe 0 ((m17.length : Int) - 1 - (i : Int)) = true := by simp only [iLe, decide_eq_true_eq]; omega
   have q2 : iIn ((m17.length : Int) - 1 - (i : Int)) (m17.length : Int) = true := by simp only [iIn, decide_eq_true_eq]; omega
   have q3 : ((m17.length : Int) - 1 - (i : Int)).toNat = m17.length - 1 - i := by omega
   have q4 : IntKind.i64.wrap ((m17.length : Int) - 1 - (i : Int) - 1) = (m17.length : Int) - 1 - ((i + 1 : Nat) : Int) := by rw [FZ (by omega) (by omega)]; omega
   have q5 := fy (m17.length - 1 - i) (by omega)
   simp only [PXb, PXc, q1, q2, q3, q4, Gq, RV q5, PXm]
   cases (inn ys (m17.length - 1 - i)).side == e1 <;> rfl
  ·have hfa := iH ys e1 (fun k => [PV.str m0, PV.int m1, PV.int m2, PV.int m3, PV.int m4, PV.int m5, PV.int m6, PV.int m7, PV.bool m8, PV.int m9, PV.int m10, PV.int m11, PV.int m12, PV.rows m13, PV.int m14, PV.int m15, PV.bool m16, PV.rows (AQ (ys.set k (Mw (inn ys k)))), PV.int m18, PV.int m19, PV.int m20, PV.int m21, PV.int m22]) m17.length m17.length (Nat.le_refl _)
   rw [Nat.sub_self] at hfa
   rw [hfa]
   unfold LB
   simp only [ly]
   cases Rw ys e1 m17.length with
   | some k => rfl
   | none =>
    rcases hside with h | h <;> subst h
    ·simp only [Option.map_none, Rl, PXb, PXc, CF, Int.reduceBEq, wr1, Uy]
     rfl
    ·simp only [Option.map_none, Rl, PXb, PXc, CF, Int.reduceBEq, wr2, Vf]
     rfl
 ·have ak := lA ok (⟨e0, e1, e2, e3, e4, e5, e6, ⟨e7, e8, e9, e10, e11, e12, e13, e14, e15, e16, e17, e18⟩⟩ : Ev)
  generalize NB (⟨⟨m0, m1, m2, m3, m4, m5, m6, m7, m8, m9, m10, m11, m12, m13⟩, m14, m15, m16, m17, m18, m19, m20, m21, m22⟩ : Mat) (⟨e0, e1, e2, e3, e4, e5, e6, ⟨e7, e8, e9, e10, e11, e12, e13, e14, e15, e16, e17, e18⟩⟩ : Ev) = A at ak
  obtain ⟨⟨⟨a0, a1, a2, a3, a4, a5, a6, a7, a8, a9, a10, a11, a12, a13⟩, a14, a15, a16, a17, a18, a19, a20, a21, a22⟩, l⟩ := A
  obtain ⟨k1, k2, k3, k4⟩ := ak
  simp only at k1 k2 k3 k4
  have hl5 : a17.length ≤ 1048576 := by omega
  have hs5 : a0.size ≤ 1048576 := by
   have := congrArg Rul.name k1
   simp only at this
   rw [this]; exact hs
  simp only [PXb, PXc, PXk, PXi, CF, Nat.reduceAdd]
  cases hl0 : l == 0
  case false => rfl
  simp only [PXb, P9]
  cases h3 : a14 == 3
  case false => rfl
  have h0 := k4 hl0 h3
  have li := Oy h0 (show a17.length ≤ 1000000 by omega)
  simp only [PXb, PXc, PXi, li]
  cases he2 : (inn a17 (IntKind.i64.wrap ((a17.length : Int) - 1)).toNat).ending == 0
  case true => simp only [PXb, Cb, lnx, he2]
  simp only [PXb, PXc, PXi, Cb, lnx, he2, JU, Ej, H5, Q2 hN hl5, Hz, eh k2 hN (show a17.length ≤ 1000000 by omega) hs5]
  unfold PI
  simp only [Cb, lnx]
  simp only [A6, Cb, lnx]
  cases hq1 : ((a17.length : Int) == IntKind.i64.wrap (2 * a2))
  case true => rfl
  cases hq2 : ((a17.length : Int) == 3)
  case true =>
   simp only [PXb]
   cases iLt (F3 a17 (inn a17 (IntKind.i64.wrap ((a17.length : Int) - 1)).toNat).side a17.length) (F3 a17 (BZ (inn a17 (IntKind.i64.wrap ((a17.length : Int) - 1)).toNat).side) a17.length)
   case true => rfl
   simp only [PXb]
   cases ((a17.length : Int) == 2) && iLt 0 a10 && iLe a10 (IntKind.i64.wrap (F3 a17 a15 a17.length - F3 a17 (BZ a15) a17.length)) <;> rfl
  simp only [PXb]
  cases ((a17.length : Int) == 2) && iLt 0 a10 && iLe a10 (IntKind.i64.wrap (F3 a17 a15 a17.length - F3 a17 (BZ a15) a17.length)) <;> rfl
end Go.Px
end
section
namespace Go.Px
set_option maxRecDepth 100000
def S7 (m : Mat) : Int := cond (!Cs m) 0 (cond (m.stage == 3) (Cb m).side (cond (m.stage == 2) (DW m (m.inns.length : Int)) 0))
theorem jU {N : Nat} {m1 m2 m3 m4 m5 m6 m7 m9 m10 m11 m12 m14 m15 m18 m19 m20 m21 m22 : Int} {m8 m16 : Bool} {m0 : ByteArray} {m13 : Rows} {m17 : List Inn} (hf : Da m17) (hN : 2097152 < N) (hl : m17.length ≤ 1000000) (hs : m0.size ≤ 1048576) : IE N [.str m0, .int m1, .int m2, .int m3, .int m4, .int m5, .int m6, .int m7, .bool m8, .int m9, .int m10, .int m11, .int m12, .rows m13, .int m14, .int m15, .bool m16, .rows (AQ m17), .int m18, .int m19, .int m20, .int m21, .int m22] = some [.int (S7 (⟨⟨m0, m1, m2, m3, m4, m5, m6, m7, m8, m9, m10, m11, m12, m13⟩, m14, m15, m16, m17, m18, m19, m20, m21, m22⟩ : Mat))] := by
 show IJ (std (CP N) N) (xOf _) = _
 generalize hres : (some [.int (S7 (⟨⟨m0, m1, m2, m3, m4, m5, m6, m7, m8, m9, m10, m11, m12, m13⟩, m14, m15, m16, m17, m18, m19, m20, m21, m22⟩ : Mat))] : Option (List PV)) = RR
 simp only [IJ, Tk, Kn, Jm, std, xOf, PXb, VX hf hN hl hs]
 subst hres; simp only [S7]
 cases hv : Cs (⟨⟨m0, m1, m2, m3, m4, m5, m6, m7, m8, m9, m10, m11, m12, m13⟩, m14, m15, m16, m17, m18, m19, m20, m21, m22⟩ : Mat)
 case false => rfl
 have ok := fo hv
 simp only [PXb]
 cases h3 : m14 == 3
 case true => simp only [PXb, PXi, Kn, Ri (ok.begun h3) hl, Cb, PXm]
 cases h2 : m14 == 2
 case false => rfl
 have hr := ok.room h2
 have rk := (Jv ok.code).innings
 simp only at hr rk
 have hi3 : 0 ≤ (m17.length : Int) ∧ (m17.length : Int) ≤ 3 := by omega
 simp only [PXb, PXi, Jm, Yw hi3]
theorem qC {m : Mat} (ok : MatOk m) (h2 : (m.stage == 2) = true) (sd : Int) : Gt m sd = cond (IntKind.i64.wrap ((m.inns.length : Int) + 1) == IntKind.i64.wrap (2 * m.rules.innings)) (IntKind.i64.wrap (IntKind.i64.wrap (A6 m (BZ sd) - A6 m sd) + 1)) 0 := by
 have hr := ok.room h2
 have hm := ok.most.1
 have hl := ok.len
 unfold Gt
 rw [hm, FZ (by omega) (by omega)]
 cases hq : ((m.inns.length : Int) + 1 == 2 * m.rules.innings) with
 | true =>
  rw [beq_iff_eq] at hq
  rw [show iLt ((m.inns.length : Int) + 1) (2 * m.rules.innings) = false by simp only [iLt, decide_eq_false_iff_not]; omega]
  rfl
 | false =>
  rw [beq_eq_false_iff_ne] at hq
  rw [show iLt ((m.inns.length : Int) + 1) (2 * m.rules.innings) = true by simp only [iLt, decide_eq_true_eq]; omega]
  rfl
set_option maxHeartbeats 4000000 in
theorem o9 {N : Nat} {m1 m2 m3 m4 m5 m6 m7 m9 m10 m11 m12 m14 m15 m18 m19 m20 m21 m22 : Int} {m8 m16 : Bool} {m0 : ByteArray} {m13 : Rows} {m17 : List Inn} {e0 e1 e2 e3 e5 e6 e7 e8 e9 e10 e11 e13 e14 e15 e16 e18 : Int} {e4 e12 e17 : Bool} (hN : 2097152 < N) (hf : Da m17) (hl : m17.length ≤ 1000000) (hs : m0.size ≤ 1048576) (h13 : m13.length ≤ 1048576) (ok : MatOk (⟨⟨m0, m1, m2, m3, m4, m5, m6, m7, m8, m9, m10, m11, m12, m13⟩, m14, m15, m16, m17, m18, m19, m20, m21, m22⟩ : Mat)) (hv : Cs (⟨⟨m0, m1, m2, m3, m4, m5, m6, m7, m8, m9, m10, m11, m12, m13⟩, m14, m15, m16, m17, m18, m19, m20, m21, m22⟩ : Mat) = true) (hs2 : (m14 == 2) = true) : Mq N [.str m0, .int m1, .int m2, .int m3, .int m4, .int m5, .int m6, .int m7, .bool m8, .int m9, .int m10, .int m11, .int m12, .rows m13, .int m14, .int m15, .bool m16, .rows (AQ m17), .int m18, .int m19, .int m20, .int m21, .int m22, .int e0, .int e1, .int e2, .int e3, .bool e4, .int e5, .int e6, .int e7, .int e8, .int e9, .int e10, .int e11, .bool e12, .int e13, .int e14, .int e15, .int e16, .bool e17, .int e18] = some (DB (XZ (⟨⟨m0, m1, m2, m3, m4, m5, m6, m7, m8, m9, m10, m11, m12, m13⟩, m14, m15, m16, m17, m18, m19, m20, m21, m22⟩ : Mat) (⟨e0, e1, e2, e3, e4, e5, e6, ⟨e7, e8, e9, e10, e11, e12, e13, e14, e15, e16, e17, e18⟩⟩ : Ev))) := by
 show OK (std (CW N) N) (xOf _) = _
 have hl2 : m17.length ≤ 1048576 := by omega
 have h304 : iSm ((m17.length + 1 : Nat) : Int) 304 = true := Hn (by omega) (by omega)
 have fb := fun a b c => (Hf (⟨⟨m0, m1, m2, m3, m4, m5, m6, m7, m8, m9, m10, m11, m12, m13⟩, m14, m15, m16, m17, m18, m19, m20, m21, m22⟩ : Mat).rules a b c).1
 have wb : ∀ a b c, (Bi (⟨⟨m0, m1, m2, m3, m4, m5, m6, m7, m8, m9, m10, m11, m12, m13⟩, m14, m15, m16, m17, m18, m19, m20, m21, m22⟩ : Mat).rules a b c).1.before.length + (Bi (⟨⟨m0, m1, m2, m3, m4, m5, m6, m7, m8, m9, m10, m11, m12, m13⟩, m14, m15, m16, m17, m18, m19, m20, m21, m22⟩ : Mat).rules a b c).1.bowlers.length ≤ 1000000 := fun a b c => by
  rw [(Hf (⟨⟨m0, m1, m2, m3, m4, m5, m6, m7, m8, m9, m10, m11, m12, m13⟩, m14, m15, m16, m17, m18, m19, m20, m21, m22⟩ : Mat).rules a b c).2.1, (Hf (⟨⟨m0, m1, m2, m3, m4, m5, m6, m7, m8, m9, m10, m11, m12, m13⟩, m14, m15, m16, m17, m18, m19, m20, m21, m22⟩ : Mat).rules a b c).2.2]
  exact Nat.zero_le _
 have hb : S7 (⟨⟨m0, m1, m2, m3, m4, m5, m6, m7, m8, m9, m10, m11, m12, m13⟩, m14, m15, m16, m17, m18, m19, m20, m21, m22⟩ : Mat) = DW (⟨⟨m0, m1, m2, m3, m4, m5, m6, m7, m8, m9, m10, m11, m12, m13⟩, m14, m15, m16, m17, m18, m19, m20, m21, m22⟩ : Mat) (m17.length : Int) := by
  unfold S7
  rw [hv]
  have h3 : (m14 == 3) = false := by
   rw [beq_iff_eq] at hs2
   rw [hs2]; rfl
  simp only [PXb, h3, hs2]
 have ht := fun sd => qC ok hs2 sd
 simp only at ht
 simp only [OK, Hm, HO, U9, Hc, IZ, std, xOf, PXb, jU hf hN hl hs, hb]
 rcases kh (m := (⟨⟨m0, m1, m2, m3, m4, m5, m6, m7, m8, m9, m10, m11, m12, m13⟩, m14, m15, m16, m17, m18, m19, m20, m21, m22⟩ : Mat)) (ok.toss hs2) (m17.length : Int) with ho | ho
 ·simp only [PXb, PXc, ho, wr1, wr2, Uy, Vf, CF, Sd, Nat.reduceAdd, Int.reduceBEq, XZ, ht, PXi, Hm, HO, F7, K9 hN hl2]
  generalize hT : cond (IntKind.i64.wrap ((m17.length : Int) + 1) == IntKind.i64.wrap (2 * m2)) (IntKind.i64.wrap (IntKind.i64.wrap (A6 (⟨⟨m0, m1, m2, m3, m4, m5, m6, m7, m8, m9, m10, m11, m12, m13⟩, m14, m15, m16, m17, m18, m19, m20, m21, m22⟩ : Mat) (BZ 1) - A6 (⟨⟨m0, m1, m2, m3, m4, m5, m6, m7, m8, m9, m10, m11, m12, m13⟩, m14, m15, m16, m17, m18, m19, m20, m21, m22⟩ : Mat) 1) + 1)) 0 = T
  refine bind_ok (r := [.int T]) (by subst hT; cases IntKind.i64.wrap ((m17.length : Int) + 1) == IntKind.i64.wrap (2 * m2) <;> rfl) ?_
  simp only [PXb, PXc, PXi, PXr, Inn.eta, AW, List.length_append, List.length_cons, List.length_nil, h304, CF, Sd, Nat.reduceAdd, Int.reduceBEq, Hc, IZ, cC hN hs, Xl (fb _ _ _) (wb _ _ _) hN hs h13]
  cases (Bi (⟨⟨m0, m1, m2, m3, m4, m5, m6, m7, m8, m9, m10, m11, m12, m13⟩, m14, m15, m16, m17, m18, m19, m20, m21, m22⟩ : Mat).rules 1 T m18).2 == 0 <;> try rfl
  cases (DD (⟨⟨m0, m1, m2, m3, m4, m5, m6, m7, m8, m9, m10, m11, m12, m13⟩, m14, m15, m16, m17, m18, m19, m20, m21, m22⟩ : Mat).rules (Bi (⟨⟨m0, m1, m2, m3, m4, m5, m6, m7, m8, m9, m10, m11, m12, m13⟩, m14, m15, m16, m17, m18, m19, m20, m21, m22⟩ : Mat).rules 1 T m18).1 (⟨e0, e1, e2, e3, e4, e5, e6, ⟨e7, e8, e9, e10, e11, e12, e13, e14, e15, e16, e17, e18⟩⟩ : Ev)).2 == 0 <;> rfl
 ·simp only [PXb, PXc, ho, wr1, wr2, Uy, Vf, CF, Sd, Nat.reduceAdd, Int.reduceBEq, XZ, ht, PXi, Hm, HO, F7, K9 hN hl2]
  generalize hT : cond (IntKind.i64.wrap ((m17.length : Int) + 1) == IntKind.i64.wrap (2 * m2)) (IntKind.i64.wrap (IntKind.i64.wrap (A6 (⟨⟨m0, m1, m2, m3, m4, m5, m6, m7, m8, m9, m10, m11, m12, m13⟩, m14, m15, m16, m17, m18, m19, m20, m21, m22⟩ : Mat) (BZ 2) - A6 (⟨⟨m0, m1, m2, m3, m4, m5, m6, m7, m8, m9, m10, m11, m12, m13⟩, m14, m15, m16, m17, m18, m19, m20, m21, m22⟩ : Mat) 2) + 1)) 0 = T
  refine bind_ok (r := [.int T]) (by subst hT; cases IntKind.i64.wrap ((m17.length : Int) + 1) == IntKind.i64.wrap (2 * m2) <;> rfl) ?_
  simp only [PXb, PXc, PXi, PXr, Inn.eta, AW, List.length_append, List.length_cons, List.length_nil, h304, CF, Sd, Nat.reduceAdd, Int.reduceBEq, Hc, IZ, cC hN hs, Xl (fb _ _ _) (wb _ _ _) hN hs h13]
  cases (Bi (⟨⟨m0, m1, m2, m3, m4, m5, m6, m7, m8, m9, m10, m11, m12, m13⟩, m14, m15, m16, m17, m18, m19, m20, m21, m22⟩ : Mat).rules 2 T m19).2 == 0 <;> try rfl
  cases (DD (⟨⟨m0, m1, m2, m3, m4, m5, m6, m7, m8, m9, m10, m11, m12, m13⟩, m14, m15, m16, m17, m18, m19, m20, m21, m22⟩ : Mat).rules (Bi (⟨⟨m0, m1, m2, m3, m4, m5, m6, m7, m8, m9, m10, m11, m12, m13⟩, m14, m15, m16, m17, m18, m19, m20, m21, m22⟩ : Mat).rules 2 T m19).1 (⟨e0, e1, e2, e3, e4, e5, e6, ⟨e7, e8, e9, e10, e11, e12, e13, e14, e15, e16, e17, e18⟩⟩ : Ev)).2 == 0 <;> rfl
end Go.Px
end
section
namespace Go.Px
set_option maxRecDepth 100000
set_option maxHeartbeats 8000000 in
theorem pD {N : Nat} {m1 m2 m3 m4 m5 m6 m7 m9 m10 m11 m12 m14 m15 m18 m19 m20 m21 m22 : Int} {m8 m16 : Bool} {m0 : ByteArray} {m13 : Rows} {m17 : List Inn} {e0 e1 e2 e3 e5 e6 e7 e8 e9 e10 e11 e13 e14 e15 e16 e18 : Int} {e4 e12 e17 : Bool} (hN : 2097152 < N) (hf : Da m17) (hl : m17.length ≤ 1000000) (hs : m0.size ≤ 1048576) (h13 : m13.length ≤ 1048576) (ok : MatOk (⟨⟨m0, m1, m2, m3, m4, m5, m6, m7, m8, m9, m10, m11, m12, m13⟩, m14, m15, m16, m17, m18, m19, m20, m21, m22⟩ : Mat)) (he : (evS (⟨e0, e1, e2, e3, e4, e5, e6, ⟨e7, e8, e9, e10, e11, e12, e13, e14, e15, e16, e17, e18⟩⟩ : Ev) == 0) = true) (h3 : (m14 == 3) = true) : N1 N [.str m0, .int m1, .int m2, .int m3, .int m4, .int m5, .int m6, .int m7, .bool m8, .int m9, .int m10, .int m11, .int m12, .rows m13, .int m14, .int m15, .bool m16, .rows (AQ m17), .int m18, .int m19, .int m20, .int m21, .int m22, .int e0, .int e1, .int e2, .int e3, .bool e4, .int e5, .int e6, .int e7, .int e8, .int e9, .int e10, .int e11, .bool e12, .int e13, .int e14, .int e15, .int e16, .bool e17, .int e18] = some (DB (ei (⟨⟨m0, m1, m2, m3, m4, m5, m6, m7, m8, m9, m10, m11, m12, m13⟩, m14, m15, m16, m17, m18, m19, m20, m21, m22⟩ : Mat) (⟨e0, e1, e2, e3, e4, e5, e6, ⟨e7, e8, e9, e10, e11, e12, e13, e14, e15, e16, e17, e18⟩⟩ : Ev))) := by
 show OE (std (Eo N) N) (xOf _) = _
 simp only [OE, Oe, Km, std, xOf, PXb]
 have h0 := ok.begun h3
 have lv := SH (ok.innv (lnx m17) (f7 h0 hl)).1
 have fl : (inn m17 (IntKind.i64.wrap ((m17.length : Int) - 1)).toNat).Fit := lv.2.2
 have wl : (inn m17 (IntKind.i64.wrap ((m17.length : Int) - 1)).toNat).before.length + (inn m17 (IntKind.i64.wrap ((m17.length : Int) - 1)).toNat).bowlers.length ≤ 1000000 := by
  have h1 := lv.1
  have h2 := lv.2.1
  change (inn m17 (IntKind.i64.wrap ((m17.length : Int) - 1)).toNat).bowlers.length ≤ 11 at h1
  change (inn m17 (IntKind.i64.wrap ((m17.length : Int) - 1)).toNat).before.length ≤ 11 at h2
  omega
 have f1 := Kv (Ud (⟨⟨m0, m1, m2, m3, m4, m5, m6, m7, m8, m9, m10, m11, m12, m13⟩, m14, m15, m16, m17, m18, m19, m20, m21, m22⟩ : Mat).rules (inn m17 (IntKind.i64.wrap ((m17.length : Int) - 1)).toNat) (⟨e0, e1, e2, e3, e4, e5, e6, ⟨e7, e8, e9, e10, e11, e12, e13, e14, e15, e16, e17, e18⟩⟩ : Ev)) fl (by omega)
 simp only [PXb, PXc, PXi, PXr, AW, Inn.eta, CF, Nat.reduceAdd, List.length_set, Oy h0 hl, Oe, Xl fl wl hN hs h13, ei, Cb, lnx]
 generalize hX : DD (⟨⟨m0, m1, m2, m3, m4, m5, m6, m7, m8, m9, m10, m11, m12, m13⟩, m14, m15, m16, m17, m18, m19, m20, m21, m22⟩ : Mat).rules (inn m17 (IntKind.i64.wrap ((m17.length : Int) - 1)).toNat) (⟨e0, e1, e2, e3, e4, e5, e6, ⟨e7, e8, e9, e10, e11, e12, e13, e14, e15, e16, e17, e18⟩⟩ : Ev) = X at f1
 have fy := TQ (IntKind.i64.wrap ((m17.length : Int) - 1)).toNat hf f1
 generalize hy : m17.set (IntKind.i64.wrap ((m17.length : Int) - 1)).toNat X.1 = ys at fy
 have ly : ys.length = m17.length := by rw [← hy, List.length_set]
 cases X.2 == 0 <;> try rfl
 cases h13k : e0 == 13
 case false => rfl
 cases hsd : e1 == X.1.side
 case true => rfl
 simp only [PXb, Option.bind_assoc]
 have e0w : IntKind.i64.wrap ((m17.length : Int) - 1) = (m17.length : Int) - 1 - ((0 : Nat) : Int) := by
  rw [beq_eq_false_iff_ne] at h0
  rw [FZ (by omega) (by omega)]; omega
 rw [e0w]
 have hside := i5 (e := (⟨e0, e1, e2, e3, e4, e5, e6, ⟨e7, e8, e9, e10, e11, e12, e13, e14, e15, e16, e17, e18⟩⟩ : Ev)) he h13k
 simp only at hside
 refine AN (Ng (len := m17.length) (fun j => [.int ((m17.length : Int) - 1 - (j : Int))]) (fun j => cond ((inn ys (m17.length - 1 - j)).side == e1) (some [PV.int 0, PV.str m0, PV.int m1, PV.int m2, PV.int m3, PV.int m4, PV.int m5, PV.int m6, PV.int m7, PV.bool m8, PV.int m9, PV.int m10, PV.int m11, PV.int m12, PV.rows m13, PV.int m14, PV.int m15, PV.bool m16, PV.rows (AQ (ys.set (m17.length - 1 - j) (Mw (inn ys (m17.length - 1 - j))))), PV.int m18, PV.int m19, PV.int m20, PV.int m21, PV.int m22]) none) ?_ ?_ m17.length 0 N (by omega) (by omega)) ?_
 ·intro self
  have q1 : iLe 0 ((m17.length : Int) - 1 - (m17.length : Int)) = false := by simp only [iLe, decide_eq_false_iff_not]; omega
  simp only [PXb, q1]
 ·intro i self hi
  have q1 : iLe 0 ((m17.length : Int) - 1 - (i : Int)) = true := by simp only [iLe, decide_eq_true_eq]; omega
  have q2 : iIn ((m17.length : Int) - 1 - (i : Int)) (m17.length : Int) = true := by simp only [iIn, decide_eq_true_eq]; omega
  have q3 : ((m17.length : Int) - 1 - (i : Int)).toNat = m17.length - 1 - i := by omega
  have q4 : IntKind.i64.wrap ((m17.length : Int) - 1 - (i : Int) - 1) = (m17.length : Int) - 1 - ((i + 1 : Nat) : Int) := by rw [FZ (by omega) (by omega)]; omega
  have q5 := fy (m17.length - 1 - i) (by omega)
  simp only [PXb, PXc, q1, q2, q3, q4, Km, YC q5, PXm]
  cases (inn ys (m17.length - 1 - i)).side == e1 <;> rfl
 ·have hfa := iH ys e1 (fun k => [PV.int 0, PV.str m0, PV.int m1, PV.int m2, PV.int m3, PV.int m4, PV.int m5, PV.int m6, PV.int m7, PV.bool m8, PV.int m9, PV.int m10, PV.int m11, PV.int m12, PV.rows m13, PV.int m14, PV.int m15, PV.bool m16, PV.rows (AQ (ys.set k (Mw (inn ys k)))), PV.int m18, PV.int m19, PV.int m20, PV.int m21, PV.int m22]) m17.length m17.length (Nat.le_refl _)
  rw [Nat.sub_self] at hfa
  rw [hfa]
  unfold LB
  simp only [ly]
  cases Rw ys e1 m17.length with
  | some k => rfl
  | none =>
   rcases hside with h | h <;> subst h
   ·simp only [Option.map_none, Rl, PXb, PXc, CF, Int.reduceBEq, wr1, Uy]
    rfl
   ·simp only [Option.map_none, Rl, PXb, PXc, CF, Int.reduceBEq, wr2, Vf]
    rfl
set_option maxHeartbeats 4000000 in
theorem qr {N : Nat} {m1 m2 m3 m4 m5 m6 m7 m9 m10 m11 m12 m14 m15 m18 m19 m20 m21 m22 : Int} {m8 m16 : Bool} {m0 : ByteArray} {m13 : Rows} {m17 : List Inn} {e0 e1 e2 e3 e5 e6 e7 e8 e9 e10 e11 e13 e14 e15 e16 e18 : Int} {e4 e12 e17 : Bool} (hN : 2097152 < N) (hf : Da m17) (hl : m17.length ≤ 1000000) (hs : m0.size ≤ 1048576) (h13 : m13.length ≤ 1048576) (ok : MatOk (⟨⟨m0, m1, m2, m3, m4, m5, m6, m7, m8, m9, m10, m11, m12, m13⟩, m14, m15, m16, m17, m18, m19, m20, m21, m22⟩ : Mat)) (hv : Cs (⟨⟨m0, m1, m2, m3, m4, m5, m6, m7, m8, m9, m10, m11, m12, m13⟩, m14, m15, m16, m17, m18, m19, m20, m21, m22⟩ : Mat) = true) (he : (evS (⟨e0, e1, e2, e3, e4, e5, e6, ⟨e7, e8, e9, e10, e11, e12, e13, e14, e15, e16, e17, e18⟩⟩ : Ev) == 0) = true) : QB N [.str m0, .int m1, .int m2, .int m3, .int m4, .int m5, .int m6, .int m7, .bool m8, .int m9, .int m10, .int m11, .int m12, .rows m13, .int m14, .int m15, .bool m16, .rows (AQ m17), .int m18, .int m19, .int m20, .int m21, .int m22, .int e0, .int e1, .int e2, .int e3, .bool e4, .int e5, .int e6, .int e7, .int e8, .int e9, .int e10, .int e11, .bool e12, .int e13, .int e14, .int e15, .int e16, .bool e17, .int e18] = some (DB (NB (⟨⟨m0, m1, m2, m3, m4, m5, m6, m7, m8, m9, m10, m11, m12, m13⟩, m14, m15, m16, m17, m18, m19, m20, m21, m22⟩ : Mat) (⟨e0, e1, e2, e3, e4, e5, e6, ⟨e7, e8, e9, e10, e11, e12, e13, e14, e15, e16, e17, e18⟩⟩ : Ev))) := by
 show P5 (std (EJ N) N) (xOf _) = _
 simp only [P5, Oj, Qe, QV, std, xOf, PXb]
 unfold NB
 cases hk1 : e0 == 1
 case true =>
  simp only [PXb, Oj, F7]
  cases m14 == 1 <;> cases e4 <;> rfl
 cases hk2 : e0 == 2
 case true =>
  simp only [PXb]
  cases hs2 : m14 == 2
  case false => rfl
  simp only [PXb, Qe, o9 hN hf hl hs h13 ok hv hs2]
  rfl
 cases hk3 : e0 == 12
 case true =>
  simp only [PXb]
  cases m14 == 4 <;> cases e1 == m15 <;> rfl
 cases hk4 : e0 == 16
 case true =>
  simp only [PXb, j5, WX]
  cases h3 : m14 == 3
  case false =>
   simp only [PXb, PXc, PXi, PXr, CF, Nat.reduceAdd]
   cases m3 == 0 <;> rfl
  simp only [PXb, PXc, PXi, PXr, CF, Nat.reduceAdd, Oy (ok.begun h3) hl]
  cases m3 == 0 <;> rfl
 simp only [PXb]
 cases h3 : m14 == 3
 case false => rfl
 simp only [PXb, QV, pD hN hf hl hs h13 ok he h3]
 rfl
theorem mY {N : Nat} {m1 m2 m3 m4 m5 m6 m7 m9 m10 m11 m12 m14 m15 m18 m19 m20 m21 m22 : Int} {m8 m16 : Bool} {m0 : ByteArray} {m13 : Rows} {m17 : List Inn} (hf : Da m17) (hN : 2097152 < N) (hl : m17.length ≤ 1000000) (hs : m0.size ≤ 1048576) (h0 : ((m17.length : Int) == 0) = false) : JN N [.str m0, .int m1, .int m2, .int m3, .int m4, .int m5, .int m6, .int m7, .bool m8, .int m9, .int m10, .int m11, .int m12, .rows m13, .int m14, .int m15, .bool m16, .rows (AQ m17), .int m18, .int m19, .int m20, .int m21, .int m22] = some (PI (⟨⟨m0, m1, m2, m3, m4, m5, m6, m7, m8, m9, m10, m11, m12, m13⟩, m14, m15, m16, m17, m18, m19, m20, m21, m22⟩ : Mat)).ls := by
 show Jf (std (CE N) N) (xOf _) = _
 have hl5 : m17.length ≤ 1048576 := by omega
 simp only [Jf, WZ, Uw, VW, Sk, std, xOf, PXb, Ri h0 hl, F7, K9 hN hl5, jS hf hN hl hs, PXi]
 unfold PI
 simp only [A6, Cb, lnx, PXm]
 cases hq1 : ((m17.length : Int) == IntKind.i64.wrap (2 * m2))
 case true => rfl
 cases hq2 : ((m17.length : Int) == 3)
 case true =>
  simp only [PXb]
  cases iLt (F3 m17 (inn m17 (IntKind.i64.wrap ((m17.length : Int) - 1)).toNat).side m17.length) (F3 m17 (BZ (inn m17 (IntKind.i64.wrap ((m17.length : Int) - 1)).toNat).side) m17.length)
  case true => rfl
  simp only [PXb]
  cases ((m17.length : Int) == 2) <;> cases iLt 0 m10 <;> try rfl
  simp only [PXb]
  cases iLe m10 (IntKind.i64.wrap (F3 m17 m15 m17.length - F3 m17 (BZ m15) m17.length)) <;> rfl
 simp only [PXb]
 cases ((m17.length : Int) == 2) <;> cases iLt 0 m10 <;> try rfl
 simp only [PXb]
 cases iLe m10 (IntKind.i64.wrap (F3 m17 m15 m17.length - F3 m17 (BZ m15) m17.length)) <;> rfl
set_option maxHeartbeats 4000000 in
theorem o8 {N : Nat} {m1 m2 m3 m4 m5 m6 m7 m9 m10 m11 m12 m14 m15 m18 m19 m20 m21 m22 : Int} {m8 m16 : Bool} {m0 : ByteArray} {m13 : Rows} {m17 : List Inn} {e0 e1 e2 e3 e5 e6 e7 e8 e9 e10 e11 e13 e14 e15 e16 e18 : Int} {e4 e12 e17 : Bool} (hN : 2097152 < N) (hf : Da m17) (hl : m17.length ≤ 1000000) (hs : m0.size ≤ 1048576) (h13 : m13.length ≤ 1048576) : M8 N [.str m0, .int m1, .int m2, .int m3, .int m4, .int m5, .int m6, .int m7, .bool m8, .int m9, .int m10, .int m11, .int m12, .rows m13, .int m14, .int m15, .bool m16, .rows (AQ m17), .int m18, .int m19, .int m20, .int m21, .int m22, .int e0, .int e1, .int e2, .int e3, .bool e4, .int e5, .int e6, .int e7, .int e8, .int e9, .int e10, .int e11, .bool e12, .int e13, .int e14, .int e15, .int e16, .bool e17, .int e18] = some (DB (M6 (⟨⟨m0, m1, m2, m3, m4, m5, m6, m7, m8, m9, m10, m11, m12, m13⟩, m14, m15, m16, m17, m18, m19, m20, m21, m22⟩ : Mat) (⟨e0, e1, e2, e3, e4, e5, e6, ⟨e7, e8, e9, e10, e11, e12, e13, e14, e15, e16, e17, e18⟩⟩ : Ev))) := by
 show Mm (std (B3 N) N) (xOf _) = _
 generalize hres : (some (DB (M6 (⟨⟨m0, m1, m2, m3, m4, m5, m6, m7, m8, m9, m10, m11, m12, m13⟩, m14, m15, m16, m17, m18, m19, m20, m21, m22⟩ : Mat) (⟨e0, e1, e2, e3, e4, e5, e6, ⟨e7, e8, e9, e10, e11, e12, e13, e14, e15, e16, e17, e18⟩⟩ : Ev))) : Option (List PV)) = RR
 simp only [Mm, W7, OC, W4, P8, Oi, MS, std, xOf, PXb, VX hf hN hl hs, bo, cj hf hN hl h13]
 subst hres; simp only [M6]
 cases hv : Cs (⟨⟨m0, m1, m2, m3, m4, m5, m6, m7, m8, m9, m10, m11, m12, m13⟩, m14, m15, m16, m17, m18, m19, m20, m21, m22⟩ : Mat)
 case false => rfl
 cases he : evS (⟨e0, e1, e2, e3, e4, e5, e6, ⟨e7, e8, e9, e10, e11, e12, e13, e14, e15, e16, e17, e18⟩⟩ : Ev) == 0
 case false => simp only [PXb, he]; rfl
 simp only [PXb, he]
 cases h5 : m14 == 5
 case true => rfl
 have ok := fo hv
 simp only [PXb, PXc, CF, Nat.reduceAdd, OC, cj hf hN hl h13, P8, qr hN hf hl hs h13 ok hv he]
 have ak := lA ok (⟨e0, e1, e2, e3, e4, e5, e6, ⟨e7, e8, e9, e10, e11, e12, e13, e14, e15, e16, e17, e18⟩⟩ : Ev)
 generalize NB (⟨⟨m0, m1, m2, m3, m4, m5, m6, m7, m8, m9, m10, m11, m12, m13⟩, m14, m15, m16, m17, m18, m19, m20, m21, m22⟩ : Mat) (⟨e0, e1, e2, e3, e4, e5, e6, ⟨e7, e8, e9, e10, e11, e12, e13, e14, e15, e16, e17, e18⟩⟩ : Ev) = A at ak
 obtain ⟨⟨⟨a0, a1, a2, a3, a4, a5, a6, a7, a8, a9, a10, a11, a12, a13⟩, a14, a15, a16, a17, a18, a19, a20, a21, a22⟩, l⟩ := A
 obtain ⟨k1, k2, k3, k4⟩ := ak
 simp only at k1 k2 k3 k4
 have hl5 : a17.length ≤ 1000000 := by omega
 have hs5 : a0.size ≤ 1048576 := by
  have := congrArg Rul.name k1
  simp only at this
  rw [this]; exact hs
 simp only [PXb, PXc, PXk, PXi, CF, Nat.reduceAdd]
 cases hl0 : l == 0
 case false => rfl
 simp only [PXb, P9]
 cases h3 : a14 == 3
 case false => rfl
 have h0 := k4 hl0 h3
 simp only [PXb, PXc, PXi, Oi, Ri h0 hl5, Cb, MS, mY k2 hN hl5 hs5 h0, PXm]
 cases (inn a17 (lnx a17)).ending == 0 <;> rfl
end Go.Px
end
section
namespace Go.Px
set_option maxRecDepth 100000
theorem nH (m : Mat) : (PI m).rules = m.rules ∧ (PI m).inns = m.inns := by
 unfold PI
 dsimp only
 cases ((m.inns.length : Int) == IntKind.i64.wrap (2 * m.rules.innings) || ((m.inns.length : Int) == 3 && iLt (A6 m (Cb m).side) (A6 m (BZ (Cb m).side)))) with
 | true => exact ⟨rfl, rfl⟩
 | false =>
  cases ((m.inns.length : Int) == 2 && iLt 0 m.rules.followon && iLe m.rules.followon (IntKind.i64.wrap (A6 m m.first - A6 m (BZ m.first)))) <;> exact ⟨rfl, rfl⟩
theorem pG (m : Mat) : (P9 m).rules = m.rules ∧ (P9 m).inns = m.inns := by
 unfold P9
 cases (m.stage == 3 && !((Cb m).ending == 0)) with
 | true => exact nH m
 | false => exact ⟨rfl, rfl⟩
structure StepOk (r : Rul) (m : Mat) : Prop where
 rules : m.rules = r
 fit : Da m.inns
 len : m.inns.length ≤ 5
theorem pA {r : Rul} {m : Mat} (h : StepOk r m) (e : Ev) : StepOk r (M6 m e).1 := by
 unfold M6
 cases hv : Cs m with
 | false => exact h
 | true =>
  cases he : evS e == 0 with
  | false => exact h
  | true =>
   cases h5 : m.stage == 5 with
   | true => exact h
   | false =>
    have a := lA (fo hv) e
    cases hx : (NB m e).2 == 0 with
    | false => exact h
    | true =>
     have k := pG (NB m e).1
     exact ⟨k.1.trans (a.rules.trans h.rules), by show Da (P9 _).inns; rw [k.2]; exact a.fit, by show (P9 _).inns.length ≤ 5; rw [k.2]; exact a.len⟩
end Go.Px
end
section
namespace Go.Px
set_option maxRecDepth 100000
def evR (L : Rows) (i : Nat) : Ev := ⟨atI L i 0, atI L i 1, atI L i 2, atI L i 3, atB L i 4, atI L i 5, atI L i 6, ⟨atI L i 7, atI L i 8, atI L i 9, atI L i 10, atI L i 11, atB L i 12, atI L i 13, atI L i 14, atI L i 15, atI L i 16, atB L i 17, atI L i 18⟩⟩
theorem sP (L : Rows) (i : Nat) : (⟨atI L i 0, atI L i 1, atI L i 2, atI L i 3, atB L i 4, atI L i 5, atI L i 6, ⟨atI L i 7, atI L i 8, atI L i 9, atI L i 10, atI L i 11, atB L i 12, atI L i 13, atI L i 14, atI L i 15, atI L i 16, atB L i 17, atI L i 18⟩⟩ : Ev) = evR L i := rfl
def En (i : Int) (m : Mat) (e : Ev) : Mat × Int := cond (iLe 4000 i) (m, 26) (M6 m e)
def GP (L : Rows) : Nat → Nat → Mat → Mat × Int × Int
 | 0, _, m => (m, -1, 0)
 | k + 1, i, m => cond (!((En i m (evR L i)).2 == 0)) (m, (i : Int), (En i m (evR L i)).2) (GP L k (i + 1) (En i m (evR L i)).1)
def Uc (f : Mat × Int × Int) : List PV := [.str f.1.rules.name, .int f.1.rules.side, .int f.1.rules.innings, .int f.1.rules.overs, .int f.1.rules.balls, .int f.1.rules.quota, .int f.1.rules.wide, .int f.1.rules.noball, .bool f.1.rules.freehit, .int f.1.rules.newball, .int f.1.rules.followon, .int f.1.rules.reviews, .int f.1.rules.outside, .rows f.1.rules.power, .int f.1.stage, .int f.1.first, .bool f.1.follow, .rows (AQ f.1.inns), .int f.1.pen1, .int f.1.pen2, .int f.1.win, .int f.1.wside, .int f.1.margin, .int f.2.1, .int f.2.2]
theorem dg (L : Rows) : ∀ k i m, ((GP L k i m).2.1 == -1) = true → (GP L k i m).2.2 = 0
 | 0, _, _, _ => rfl
 | k + 1, i, m, h => by
  unfold GP at h ⊢
  cases hq : (En i m (evR L i)).2 == 0 with
  | false =>
   rw [hq] at h
   have := beq_iff_eq.1 (show ((i : Int) == -1) = true from h)
   omega
  | true => rw [hq] at h; exact dg L k (i + 1) _ h
theorem lm {r : Rul} {m : Mat} (h : StepOk r m) (i : Int) (e : Ev) : StepOk r (En i m e).1 := by
 unfold En
 cases iLe 4000 i with
 | true => exact h
 | false => exact pA h e
def JW (L : Rows) (i : Nat) (m : Mat) : List PV ⊕ Mat := cond (!((En i m (evR L i)).2 == 0)) (.inl (.int 0 :: .int i :: .int (En i m (evR L i)).2 :: m.ls)) (.inr (En i m (evR L i)).1)
def j8 (f : Mat × Int × Int) : List PV := cond (f.2.1 == -1) (.int 1 :: f.1.ls) (.int 0 :: .int f.2.1 :: .int f.2.2 :: f.1.ls)
theorem aX (L : Rows) : ∀ k i m, gQ (JW L) (fun m => .int 1 :: m.ls) k i m = j8 (GP L k i m)
 | 0, _, _ => rfl
 | k + 1, i, m => by
  simp only [gQ, JW, GP]
  cases (En i m (evR L i)).2 == 0 with
  | false =>
   simp only [Bool.not_false, cond_true, j8]
   rw [show ((i : Int) == -1) = false from beq_false_of_ne (show (i : Int) ≠ -1 by omega)]
   rfl
  | true => exact aX L k (i + 1) _
set_option maxHeartbeats 4000000 in
theorem oy {N : Nat} {m1 m2 m3 m4 m5 m6 m7 m9 m10 m11 m12 m14 m15 m18 m19 m20 m21 m22 : Int} {m8 m16 : Bool} {m0 : ByteArray} {m13 : Rows} {m17 : List Inn} {L : Rows} (hN : 2097152 < N) (hf : Da m17) (hl : m17.length ≤ 5) (hs : m0.size ≤ 1048576) (h13 : m13.length ≤ 1048576) (hL : L.length ≤ 1048576) : N0 N [.str m0, .int m1, .int m2, .int m3, .int m4, .int m5, .int m6, .int m7, .bool m8, .int m9, .int m10, .int m11, .int m12, .rows m13, .int m14, .int m15, .bool m16, .rows (AQ m17), .int m18, .int m19, .int m20, .int m21, .int m22, .rows L] = some (Uc (GP L L.length 0 (⟨⟨m0, m1, m2, m3, m4, m5, m6, m7, m8, m9, m10, m11, m12, m13⟩, m14, m15, m16, m17, m18, m19, m20, m21, m22⟩ : Mat))) := by
  show Mn (std (HA N) N) (xOf _) = _
  generalize hres : (some (Uc (GP L L.length 0 (⟨⟨m0, m1, m2, m3, m4, m5, m6, m7, m8, m9, m10, m11, m12, m13⟩, m14, m15, m16, m17, m18, m19, m20, m21, m22⟩ : Mat))) : Option (List PV)) = RR
  simp only [Mn, Ok, std, xOf, PXb]
  subst hres
  refine AN (Zs (St := Mat) (len := L.length) (enc := fun i m => [.int (i : Int), .str m.rules.name, .int m.rules.side, .int m.rules.innings, .int m.rules.overs, .int m.rules.balls, .int m.rules.quota, .int m.rules.wide, .int m.rules.noball, .bool m.rules.freehit, .int m.rules.newball, .int m.rules.followon, .int m.rules.reviews, .int m.rules.outside, .rows m.rules.power, .int m.stage, .int m.first, .bool m.follow, .rows (AQ m.inns), .int m.pen1, .int m.pen2, .int m.win, .int m.wside, .int m.margin])
    (body := JW L) (fin := fun m => .int 1 :: m.ls) (fun _ m => StepOk (⟨m0, m1, m2, m3, m4, m5, m6, m7, m8, m9, m10, m11, m12, m13⟩ : Rul) m) ?_ ?_ L.length 0 (⟨⟨m0, m1, m2, m3, m4, m5, m6, m7, m8, m9, m10, m11, m12, m13⟩, m14, m15, m16, m17, m18, m19, m20, m21, m22⟩ : Mat) N (by omega) (by omega) ⟨rfl, hf, hl⟩) ?_
  · intro m self _
    simp only [PXb, PXc, PXn, AA, Av]
    rfl
  · intro i m self hi ok
    obtain ⟨⟨a0, a1, a2, a3, a4, a5, a6, a7, a8, a9, a10, a11, a12, a13⟩, a14, a15, a16, a17, a18, a19, a20, a21, a22⟩ := m
    have o1 := ok.rules
    have o2 := ok.fit
    have o3 := ok.len
    simp only at o1 o2 o3
    cases o1
    have kp := lm ok (i : Int) (evR L i)
    refine ⟨?_, ?_⟩
    · simp only [PXb, PXc, PXn, AA, AS (show i ≤ 1099511627776 by omega), Aj hi, AU hi, Ok, o8 hN o2 (show a17.length ≤ 1000000 by omega) hs h13, BR, oL, Nat.reduceAdd, PXk, PXc, sP]
      unfold JW En
      cases iLe 4000 (i : Int)
      case true => rfl
      simp only [cond_false]
      cases (M6 (⟨⟨m0, m1, m2, m3, m4, m5, m6, m7, m8, m9, m10, m11, m12, m13⟩, a14, a15, a16, a17, a18, a19, a20, a21, a22⟩ : Mat) (evR L i)).2 == 0 <;> rfl
    · intro s' h
      unfold JW at h
      cases hq : (En (i : Int) (⟨⟨m0, m1, m2, m3, m4, m5, m6, m7, m8, m9, m10, m11, m12, m13⟩, a14, a15, a16, a17, a18, a19, a20, a21, a22⟩ : Mat) (evR L i)).2 == 0 with
      | false => rw [hq] at h; cases h
      | true => rw [hq] at h; cases h; exact kp
  · rw [aX]
    have he := dg L L.length 0 (⟨⟨m0, m1, m2, m3, m4, m5, m6, m7, m8, m9, m10, m11, m12, m13⟩, m14, m15, m16, m17, m18, m19, m20, m21, m22⟩ : Mat)
    generalize GP L L.length 0 (⟨⟨m0, m1, m2, m3, m4, m5, m6, m7, m8, m9, m10, m11, m12, m13⟩, m14, m15, m16, m17, m18, m19, m20, m21, m22⟩ : Mat) = f at he
    obtain ⟨⟨⟨a0, a1, a2, a3, a4, a5, a6, a7, a8, a9, a10, a11, a12, a13⟩, a14, a15, a16, a17, a18, a19, a20, a21, a22⟩, b, l⟩ := f
    simp only at he
    unfold j8
    cases hb : b == -1 with
    | false => rfl
    | true =>
      rw [he hb, beq_iff_eq.1 hb]
      rfl
end Go.Px
end
section
namespace Go.Px
set_option maxRecDepth 100000
theorem ka (L : Rows) : ∀ k i m, iLe 0 (GP L k i m).2.1 = !((GP L k i m).2.2 == 0) ∧ ((GP L k i m).2.1 == -1) = ((GP L k i m).2.2 == 0)
 | 0, _, _ => ⟨rfl, rfl⟩
 | k + 1, i, m => by
  unfold GP
  cases hq : (En i m (evR L i)).2 == 0 with
  | false =>
   simp only [Bool.not_false, cond_true, hq]
   exact ⟨by simp only [iLe, decide_eq_true_eq]; omega, beq_false_of_ne (by omega)⟩
  | true => exact ka L k (i + 1) _
structure LogOk (m : Mat) : Prop where
 fit : Da m.inns
 len : m.inns.length ≤ 5
 name : m.rules.name.size ≤ 1048576
 power : m.rules.power.length ≤ 1048576
end Go.Px
end
section
namespace Go.Px
set_option maxRecDepth 100000
def B9 (r : Rul) (n : Int) : Mat × Int := cond (!(Aw r == 0)) (f0, Aw r) (cond (!(n == 1) && !(n == 2)) (f0, 2) (⟨r, 2, n, false, [], 0, 0, 0, 0, 0⟩, 0))
theorem ew {r : Rul} {n : Int} (h : ((B9 r n).2 == 0) = true) : StepOk r (B9 r n).1 := by
 unfold B9 at h ⊢
 cases hc : Aw r == 0 with
 | false => rw [hc] at h; exact absurd (show (Aw r == 0) = true from h) (by rw [hc]; decide)
 | true =>
  cases hn : (!(n == 1) && !(n == 2)) with
  | true => rw [hc, hn] at h; cases h
  | false => exact ⟨rfl, fun i hi => absurd hi (Nat.not_lt_zero i), Nat.zero_le _⟩
end Go.Px
end
section
namespace Go.Px
set_option maxRecDepth 100000
def BW (r : Rul) : Rul × Int := cond (!(Aw r == 0)) (sM, Aw r) (⟨⟨#[83, 85, 80, 69, 82]⟩, cond (iLt r.side 3) r.side 3, 1, 1, r.balls, 0, r.wide, r.noball, r.freehit, 0, 0, r.reviews, r.outside, []⟩, 0)
def Lc (x : Rul × Int) : List PV := [.str x.1.name, .int x.1.side, .int x.1.innings, .int x.1.overs, .int x.1.balls, .int x.1.quota, .int x.1.wide, .int x.1.noball, .bool x.1.freehit, .int x.1.newball, .int x.1.followon, .int x.1.reviews, .int x.1.outside, .rows x.1.power, .int x.2]
theorem RE {N : Nat} {r1 r2 r3 r4 r5 r6 r7 r9 r10 r11 r12 : Int} {r8 : Bool} {r0 : ByteArray} {r13 : Rows} (hN : 2097152 < N) (hs : r0.size ≤ 1048576) : Bt N [.str r0, .int r1, .int r2, .int r3, .int r4, .int r5, .int r6, .int r7, .bool r8, .int r9, .int r10, .int r11, .int r12, .rows r13] = some (Lc (BW (⟨r0, r1, r2, r3, r4, r5, r6, r7, r8, r9, r10, r11, r12, r13⟩ : Rul))) := by
 show GM (std (IY N) N) (xOf _) = _
 generalize hres : (some (Lc (BW (⟨r0, r1, r2, r3, r4, r5, r6, r7, r8, r9, r10, r11, r12, r13⟩ : Rul))) : Option (List PV)) = RR
 simp only [GM, OT, std, xOf, PXb, PXc, PXn, PXm, Nat.reduceAdd, Int.reduceBEq, C4 hN hs]
 subst hres; simp only [BW]
 cases Aw (⟨r0, r1, r2, r3, r4, r5, r6, r7, r8, r9, r10, r11, r12, r13⟩ : Rul) == 0 <;> rfl
theorem bp {N : Nat} {r1 r2 r3 r4 r5 r6 r7 r9 r10 r11 r12 : Int} {r8 : Bool} {r0 : ByteArray} {r13 : Rows} (hN : 2097152 < N) (hs : r0.size ≤ 1048576) : IL N [.str r0, .int r1, .int r2, .int r3, .int r4, .int r5, .int r6, .int r7, .bool r8, .int r9, .int r10, .int r11, .int r12, .rows r13] = some (Lc (BW (⟨r0, r1, r2, r3, r4, r5, r6, r7, r8, r9, r10, r11, r12, r13⟩ : Rul))) := by
 show Pm (std (Qw N) N) (xOf _) = _
 generalize hres : (some (Lc (BW (⟨r0, r1, r2, r3, r4, r5, r6, r7, r8, r9, r10, r11, r12, r13⟩ : Rul))) : Option (List PV)) = RR
 simp only [Pm, Wg, std, xOf, PXb, PXc, PXn, PXm, Nat.reduceAdd, Int.reduceBEq, EM hN hs]
 subst hres; simp only [BW]
 cases Aw (⟨r0, r1, r2, r3, r4, r5, r6, r7, r8, r9, r10, r11, r12, r13⟩ : Rul) == 0 <;> rfl
theorem tc (n : Int) : (iLt n 1 || iLt 2 n) = (!(n == 1) && !(n == 2)) := by
 cases h1 : n == 1 with
 | true => rw [beq_iff_eq.1 h1]; rfl
 | false =>
  cases h2 : n == 2 with
  | true => rw [beq_iff_eq.1 h2]; rfl
  | false =>
   rw [beq_eq_false_iff_ne] at h1 h2
   show _ = true
   simp only [iLt, Bool.or_eq_true, decide_eq_true_eq]
   omega
theorem gA {N : Nat} {r1 r2 r3 r4 r5 r6 r7 r9 r10 r11 r12 : Int} {r8 : Bool} {r0 : ByteArray} {r13 : Rows} {n : Int} (hN : 2097152 < N) (hs : r0.size ≤ 1048576) (h13 : r13.length ≤ 1048576) : Fh N [.str r0, .int r1, .int r2, .int r3, .int r4, .int r5, .int r6, .int r7, .bool r8, .int r9, .int r10, .int r11, .int r12, .rows r13, .int n] = some (DB (B9 (⟨r0, r1, r2, r3, r4, r5, r6, r7, r8, r9, r10, r11, r12, r13⟩ : Rul) n)) := by
 show Ir (std (Ka N) N) (xOf _) = _
 generalize hres : (some (DB (B9 (⟨r0, r1, r2, r3, r4, r5, r6, r7, r8, r9, r10, r11, r12, r13⟩ : Rul) n)) : Option (List PV)) = RR
 simp only [Ir, SE, std, xOf, PXb, PXc, PXn, PXm, Nat.reduceAdd, Int.reduceBEq, nW hN hs h13, DB]
 subst hres
 unfold B9 ZV
 cases hc : Aw (⟨r0, r1, r2, r3, r4, r5, r6, r7, r8, r9, r10, r11, r12, r13⟩ : Rul) == 0
 case false => simp only [hc, Bool.not_false, cond_true, DB] <;> rfl
 case true => cases (!(n == 1) && !(n == 2)) <;> rfl
theorem jj {N : Nat} {r1 r2 r3 r4 r5 r6 r7 r9 r10 r11 r12 : Int} {r8 : Bool} {r0 : ByteArray} {r13 : Rows} {n : Int} (hN : 2097152 < N) (hs : r0.size ≤ 1048576) (h13 : r13.length ≤ 1048576) : LQ N [.str r0, .int r1, .int r2, .int r3, .int r4, .int r5, .int r6, .int r7, .bool r8, .int r9, .int r10, .int r11, .int r12, .rows r13, .int n] = some (DB (B9 (⟨r0, r1, r2, r3, r4, r5, r6, r7, r8, r9, r10, r11, r12, r13⟩ : Rul) n)) := by
 show LJ (std (Mt N) N) (xOf _) = _
 generalize hres : (some (DB (B9 (⟨r0, r1, r2, r3, r4, r5, r6, r7, r8, r9, r10, r11, r12, r13⟩ : Rul) n)) : Option (List PV)) = RR
 simp only [LJ, Vz, std, xOf, PXb, PXc, PXn, PXm, Nat.reduceAdd, Int.reduceBEq, qv hN hs h13, DB, tc]
 subst hres
 unfold B9 ZV
 cases hc : Aw (⟨r0, r1, r2, r3, r4, r5, r6, r7, r8, r9, r10, r11, r12, r13⟩ : Rul) == 0
 case false => simp only [hc, Bool.not_false, cond_true, DB] <;> rfl
 case true => cases (!(n == 1) && !(n == 2)) <;> rfl
end Go.Px
end
section
namespace Go.Px
set_option maxRecDepth 100000
def RA (r : Rul) (n : Int) (L : Rows) : Mat × Int × Int :=
 cond (!((BW r).2 == 0)) (f0, 0, 1) (cond (!((B9 (BW r).1 n).2 == 0)) (f0, 0, 1) (GP L L.length 0 (B9 (BW r).1 n).1))
theorem fN (r : Rul) : (BW r).1.name.size ≤ 1048576 := by
 unfold BW
 cases Aw r == 0
 ·exact Nat.zero_le _
 ·show (5 : Nat) ≤ 1048576
  omega
theorem cG (r : Rul) : (BW r).1.power.length ≤ 1048576 := by
 unfold BW
 cases Aw r == 0 <;> exact Nat.zero_le _
set_option maxHeartbeats 4000000 in
theorem Zr {N : Nat} {r1 r2 r3 r4 r5 r6 r7 r9 r10 r11 r12 : Int} {r8 : Bool} {r0 : ByteArray} {r13 : Rows} {n : Int} {L : Rows} (hN : 2097152 < N) (hs : r0.size ≤ 1048576) (hL : L.length ≤ 1048576) : DX N [.str r0, .int r1, .int r2, .int r3, .int r4, .int r5, .int r6, .int r7, .bool r8, .int r9, .int r10, .int r11, .int r12, .rows r13, .int n, .rows L] = some (Uc (RA (⟨r0, r1, r2, r3, r4, r5, r6, r7, r8, r9, r10, r11, r12, r13⟩ : Rul) n L)) := by
  show Fp (std (Cx N) N) (xOf _) = _
  generalize hres : (some (Uc (RA (⟨r0, r1, r2, r3, r4, r5, r6, r7, r8, r9, r10, r11, r12, r13⟩ : Rul) n L)) : Option (List PV)) = RR
  simp only [Fp, Kc, Es, GA, std, xOf, PXb, RE hN hs]
  subst hres; simp only [RA]
  cases h1 : (BW (⟨r0, r1, r2, r3, r4, r5, r6, r7, r8, r9, r10, r11, r12, r13⟩ : Rul)).2 == 0
  case false => simp only [Lc, PXb, PXc, h1]; rfl
  have sn := fN (⟨r0, r1, r2, r3, r4, r5, r6, r7, r8, r9, r10, r11, r12, r13⟩ : Rul)
  have sp := cG (⟨r0, r1, r2, r3, r4, r5, r6, r7, r8, r9, r10, r11, r12, r13⟩ : Rul)
  simp only [Lc, PXb, PXc, h1, Nat.reduceAdd, Es, gA hN sn sp, DB]
  cases h2 : (B9 (BW (⟨r0, r1, r2, r3, r4, r5, r6, r7, r8, r9, r10, r11, r12, r13⟩ : Rul)).1 n).2 == 0
  case false => rfl
  have ok := ew h2
  generalize B9 (BW (⟨r0, r1, r2, r3, r4, r5, r6, r7, r8, r9, r10, r11, r12, r13⟩ : Rul)).1 n = X at *
  generalize (BW (⟨r0, r1, r2, r3, r4, r5, r6, r7, r8, r9, r10, r11, r12, r13⟩ : Rul)).1 = Q at *
  obtain ⟨m, l⟩ := X
  simp only at ok
  simp only [PXb, Nat.reduceAdd]
  refine AN (Zs (St := Mat) (len := L.length) (enc := fun i m => [.int (i : Int), .str m.rules.name, .int m.rules.side, .int m.rules.innings, .int m.rules.overs, .int m.rules.balls, .int m.rules.quota, .int m.rules.wide, .int m.rules.noball, .bool m.rules.freehit, .int m.rules.newball, .int m.rules.followon, .int m.rules.reviews, .int m.rules.outside, .rows m.rules.power, .int m.stage, .int m.first, .bool m.follow, .rows (AQ m.inns), .int m.pen1, .int m.pen2, .int m.win, .int m.wside, .int m.margin])
    (body := JW L) (fin := fun m => .int 1 :: m.ls) (fun _ m => StepOk Q m) ?_ ?_ L.length 0 m N (by omega) (by omega) ok) ?_
  · intro m self _
    simp only [PXb, PXc, PXn, AA, Av]
    rfl
  · intro i m self hi ok
    have o1 := ok.rules
    have o2 := ok.fit
    have o3 := ok.len
    have kp := lm ok (i : Int) (evR L i)
    refine ⟨?_, ?_⟩
    · simp only [PXb, PXc, PXn, AA, AS (show i ≤ 1099511627776 by omega), Aj hi, AU hi, GA, kd hN o2 (show m.inns.length ≤ 1000000 by omega) (show m.rules.name.size ≤ 1048576 by rw [o1]; exact sn) (show m.rules.power.length ≤ 1048576 by rw [o1]; exact sp), BR, oL, Nat.reduceAdd, PXk, PXc, sP]
      unfold JW En
      cases iLe 4000 (i : Int)
      case true => rfl
      simp only [cond_false]
      cases (M6 m (evR L i)).2 == 0 <;> rfl
    · intro s' h
      unfold JW at h
      cases hq : (En (i : Int) m (evR L i)).2 == 0 with
      | false => rw [hq] at h; cases h
      | true => rw [hq] at h; cases h; exact kp
  · rw [aX]
    have he := dg L L.length 0 m
    generalize GP L L.length 0 m = f at he
    obtain ⟨m2, b, l⟩ := f
    simp only at he
    unfold j8
    cases hb : b == -1 with
    | false => rfl
    | true =>
      rw [he hb, beq_iff_eq.1 hb]
      rfl
set_option maxHeartbeats 4000000 in
theorem kY {N : Nat} {r1 r2 r3 r4 r5 r6 r7 r9 r10 r11 r12 : Int} {r8 : Bool} {r0 : ByteArray} {r13 : Rows} {n : Int} {L : Rows} (hN : 2097152 < N) (hs : r0.size ≤ 1048576) (hL : L.length ≤ 1048576) : Jo N [.str r0, .int r1, .int r2, .int r3, .int r4, .int r5, .int r6, .int r7, .bool r8, .int r9, .int r10, .int r11, .int r12, .rows r13, .int n, .rows L] = some (Uc (RA (⟨r0, r1, r2, r3, r4, r5, r6, r7, r8, r9, r10, r11, r12, r13⟩ : Rul) n L)) := by
 show JD (std (Co N) N) (xOf _) = _
 generalize hres : (some (Uc (RA (⟨r0, r1, r2, r3, r4, r5, r6, r7, r8, r9, r10, r11, r12, r13⟩ : Rul) n L)) : Option (List PV)) = RR
 simp only [JD, U4, JI, MX, std, xOf, PXb, bp hN hs]
 subst hres; simp only [RA]
 cases h1 : (BW (⟨r0, r1, r2, r3, r4, r5, r6, r7, r8, r9, r10, r11, r12, r13⟩ : Rul)).2 == 0
 case false => simp only [Lc, PXb, PXc, h1]; rfl
 have sn := fN (⟨r0, r1, r2, r3, r4, r5, r6, r7, r8, r9, r10, r11, r12, r13⟩ : Rul)
 have sp := cG (⟨r0, r1, r2, r3, r4, r5, r6, r7, r8, r9, r10, r11, r12, r13⟩ : Rul)
 simp only [Lc, PXb, PXc, h1, Nat.reduceAdd, JI, jj hN sn sp, DB]
 cases h2 : (B9 (BW (⟨r0, r1, r2, r3, r4, r5, r6, r7, r8, r9, r10, r11, r12, r13⟩ : Rul)).1 n).2 == 0
 case false => rfl
 have ok := ew h2
 have o1 := ok.rules
 simp only [PXb, Nat.reduceAdd, MX, oy hN ok.fit ok.len (show (B9 (BW (⟨r0, r1, r2, r3, r4, r5, r6, r7, r8, r9, r10, r11, r12, r13⟩ : Rul)).1 n).1.rules.name.size ≤ 1048576 by rw [o1]; exact sn) (show (B9 (BW (⟨r0, r1, r2, r3, r4, r5, r6, r7, r8, r9, r10, r11, r12, r13⟩ : Rul)).1 n).1.rules.power.length ≤ 1048576 by rw [o1]; exact sp) hL]
 rfl
theorem tJ (r : Rul) (n : Int) (L : Rows) : iLe 0 (RA r n L).2.1 = !((RA r n L).2.2 == 0) := by
 unfold RA
 cases (BW r).2 == 0
 ·rfl
 ·cases (B9 (BW r).1 n).2 == 0
  ·rfl
  ·exact (ka L L.length 0 _).1
theorem jq {N : Nat} {r1 r2 r3 r4 r5 r6 r7 r9 r10 r11 r12 : Int} {r8 : Bool} {r0 : ByteArray} {r13 : Rows}  : II N [.str r0, .int r1, .int r2, .int r3, .int r4, .int r5, .int r6, .int r7, .bool r8, .int r9, .int r10, .int r11, .int r12, .rows r13] = some (kv (⟨r0, r1, r2, r3, r4, r5, r6, r7, r8, r9, r10, r11, r12, r13⟩ : Rul)).ls := by
 show IA (std (F0 N) N) (xOf _) = _
 simp only [IA, std, xOf, PXb, PXc, PXn, PXm, Nat.reduceAdd, Int.reduceBEq, pb (show (0 : Int) ≤ 20 by omega), pb (show (0 : Int) ≤ 10 by omega)]
 rfl
end Go.Px
end
section
namespace Go.Px
set_option maxRecDepth 100000
def MF (xs : List Rows) : Rows := xs.map fun x => [.rows x]
theorem q9 (xs : List Rows) : (MF xs).length = xs.length := List.length_map _
theorem uD (xs : List Rows) (i : Nat) : pvL (AJ (MF xs) i 0) = xs.getD i [] := by
 unfold AJ A3 MF
 rw [List.getD_eq_getElem?_getD, List.getD_eq_getElem?_getD, List.getElem?_map]
 cases xs[i]? <;> rfl
theorem PXl : (∀ xs : List Rows, (MF xs).length = xs.length) ∧ (∀ (xs : List Rows) (i : Nat), pvL (AJ (MF xs) i 0) = xs.getD i []) ∧ (∀ (xs : List Rows) (x : Rows), MF xs ++ [[.rows x]] = MF (xs ++ [x])) := ⟨q9, uD, fun xs x => by
 show List.map _ xs ++ List.map (fun x => [PV.rows x]) [x] = List.map _ (xs ++ [x])
 exact List.map_append.symm⟩
def ol (xs : List Rows) : List Rows := (xs.take 10).map fun x => cut x 30
theorem tS {xs : List Rows} {i : Nat} (h : i < xs.length) : xs.take (i + 1) = xs.take i ++ [xs.getD i []] := by
 rw [List.take_succ_eq_append_getElem h, List.getD_eq_getElem?_getD, List.getElem?_eq_getElem h]
 rfl
set_option maxHeartbeats 2000000 in
theorem qE {N : Nat} {xs : List Rows} (hN : 2097152 < N) : QS N [.rows (MF xs)] = some [.rows (MF (ol xs))] := by
 show QL (std (K1 N) N) (xOf _) = _
 have e5 : xs.take (min xs.length 10) = xs.take 10 := by
  by_cases h : xs.length ≤ 10
  ·rw [Nat.min_eq_left h, List.take_length, List.take_of_length_le h]
  ·rw [Nat.min_eq_right (by omega)]
 simp only [QL, std, xOf, PXb, PXl]
 refine AN (Em (len := min xs.length 10) (fun i => [.rows (MF ((xs.take i).map fun x => cut x 30)), .int (i : Int)]) [.rows (MF (ol xs))] ?_ ?_ N (by omega)) rfl
 ·intro self
  have : (iLt ((min xs.length 10 : Nat) : Int) (xs.length : Int) && iLt ((min xs.length 10 : Nat) : Int) 10) = false := by
   rw [Bool.and_eq_false_iff]
   simp only [iLt, decide_eq_false_iff_not]
   omega
  simp only [PXb, PXc, PXn, AA, this, e5]
  rfl
 ·intro i self hi
  have h1 : i < xs.length := by omega
  have h5 : iLt (i : Int) 10 = true := by simp only [iLt, decide_eq_true_eq]; omega
  have h24 : iSm (((xs.take i).length + 1 : Nat) : Int) 24 = true := Hn (by rw [List.length_take]; omega) (by omega)
  have c30 : ∀ n : Nat, iRg 0 (cond (iLt 30 (n : Int)) 30 (n : Int)) (n : Int) = true := fun n => pb (show (0 : Int) ≤ 30 by omega)
  simp only [PXb, PXc, PXn, AA, AS (show i ≤ 1099511627776 by omega), Aj h1, AU h1, h5, PXl, c30, List.length_append, List.length_cons, List.length_nil, List.length_map, Nat.zero_add, Nat.reduceAdd, h24, tS h1, List.map_append]
  rfl
def ae (f : Int) (i : Nat) : Int := cond ((i : Int).tmod 2 == 1) (IntKind.i64.wrap (3 - f)) f
theorem qP {f : Int} (hf : f = 1 ∨ f = 2) (i : Nat) : IntKind.i64.wrap (3 - ae f i) = ae f (i + 1) := by
 have hm : ((i : Int).tmod 2 = 0 ∧ ((i + 1 : Nat) : Int).tmod 2 = 1) ∨ ((i : Int).tmod 2 = 1 ∧ ((i + 1 : Nat) : Int).tmod 2 = 0) := by
  have e : ∀ j : Nat, (j : Int).tmod 2 = ((j % 2 : Nat) : Int) := fun j => rfl
  rw [e, e]
  omega
 unfold ae
 rcases hm with ⟨h1, h2⟩ | ⟨h1, h2⟩ <;> rw [h1, h2] <;> rcases hf with h | h <;> subst h <;> rfl
def da (r : Rul) (f : Int) (xs : List Rows) (i : Nat) : Option (Int × Int × Int) :=
 let m := RA r (ae f i) (xs.getD i [])
 cond (!(m.2.2 == 0)) (some (0, 0, 10)) (cond (!(m.1.stage == 5) || m.1.win == 6) (some (0, 0, 11)) (cond (m.1.wside == 0) none (cond (iLt ((i + 1 : Nat) : Int) (xs.length : Int)) (some (0, 0, 1)) (some (m.1.wside, ((i + 1 : Nat) : Int), 0)))))
def dZ (x : Int × Int × Int) : List PV := [.int x.1, .int x.2.1, .int x.2.2]
def au (g : Nat → Option (Int × Int × Int)) : Nat → Nat → Option (Int × Int × Int)
 | 0, _ => none
 | k + 1, i => match g i with
  | some x => some x
  | none => au g k (i + 1)
theorem iT (g : Nat → Option (Int × Int × Int)) : ∀ k i, Bd (fun i => (g i).map dZ) k i = (au g k i).map dZ
 | 0, _ => rfl
 | k + 1, i => by
  simp only [Bd, au]
  cases g i with
  | some x => rfl
  | none => exact iT g k (i + 1)
def ox (r : Rul) (f : Int) (xs : List Rows) : Int × Int × Int :=
 cond (!((BW r).2 == 0)) (0, 0, (BW r).2) (cond (!(f == 1) && !(f == 2)) (0, 0, 2) (cond (iLt 8 (xs.length : Int)) (0, 0, 9) ((au (da r f xs) xs.length 0).getD (0, 0, 6))))
set_option maxHeartbeats 4000000 in
theorem ZF {N : Nat} {r1 r2 r3 r4 r5 r6 r7 r9 r10 r11 r12 : Int} {r8 : Bool} {r0 : ByteArray} {r13 : Rows} {n : Int} {xs : List Rows} (hN : 2097152 < N) (hs : r0.size ≤ 1048576) (hx : ∀ i, (xs.getD i []).length ≤ 1048576) : Ci N [.str r0, .int r1, .int r2, .int r3, .int r4, .int r5, .int r6, .int r7, .bool r8, .int r9, .int r10, .int r11, .int r12, .rows r13, .int n, .rows (MF xs)] = some (dZ (ox (⟨r0, r1, r2, r3, r4, r5, r6, r7, r8, r9, r10, r11, r12, r13⟩ : Rul) n xs)) := by
 show FW (std (EF N) N) (xOf _) = _
 simp only [FW, Ds, KX, std, xOf, PXb, PXl, RE hN hs]
 unfold ox
 cases h1 : (BW (⟨r0, r1, r2, r3, r4, r5, r6, r7, r8, r9, r10, r11, r12, r13⟩ : Rul)).2 == 0
 case false => simp only [Lc, PXb, PXc, h1]; rfl
 simp only [Lc, PXb, PXc, h1]
 cases hn : (!(n == 1) && !(n == 2))
 case true => rfl
 have hf : n = 1 ∨ n = 2 := by
  cases h1 : n == 1 with
  | true => exact Or.inl (beq_iff_eq.1 h1)
  | false =>
   rw [h1] at hn
   cases h2 : n == 2 with
   | true => exact Or.inr (beq_iff_eq.1 h2)
   | false => rw [h2] at hn; cases hn
 cases h8 : iLt 8 (xs.length : Int)
 case true => rfl
 have hl : xs.length ≤ 8 := by simp only [iLt, decide_eq_false_iff_not] at h8; omega
 simp only [PXb, Nat.reduceAdd]
 refine AN (Ng (len := xs.length) (fun i => [.int (ae n i), .int (i : Int)]) (fun i => (da (⟨r0, r1, r2, r3, r4, r5, r6, r7, r8, r9, r10, r11, r12, r13⟩ : Rul) n xs i).map dZ) ?_ ?_ xs.length 0 N (by omega) (by omega)) ?_
 ·intro self
  simp only [PXb, PXc, PXn, AA, Av]
 ·intro i self hi
  simp only [PXb, PXc, PXn, AA, AS (show i ≤ 1099511627776 by omega), Aj hi, AU hi, PXl, Ds, Zr hN hs (hx i), Uc, PXc, Nat.reduceAdd, qP hf i]
  unfold da
  have e : ((i + 1 : Nat) : Int) = (i : Int) + 1 := rfl
  simp only [e]
  generalize RA (⟨r0, r1, r2, r3, r4, r5, r6, r7, r8, r9, r10, r11, r12, r13⟩ : Rul) _ (xs.getD i []) = M
  cases M.2.2 == 0 <;> try rfl
  cases (!(M.1.stage == 5) || M.1.win == 6) <;> try rfl
  cases M.1.wside == 0 <;> try rfl
  cases iLt ((i : Int) + 1) (xs.length : Int) <;> rfl
 ·rw [iT]
  cases au (da (⟨r0, r1, r2, r3, r4, r5, r6, r7, r8, r9, r10, r11, r12, r13⟩ : Rul) n xs) xs.length 0 <;> rfl
set_option maxHeartbeats 4000000 in
theorem mZ {N : Nat} {r1 r2 r3 r4 r5 r6 r7 r9 r10 r11 r12 : Int} {r8 : Bool} {r0 : ByteArray} {r13 : Rows} {n : Int} {xs : List Rows} (hN : 2097152 < N) (hs : r0.size ≤ 1048576) (hx : ∀ i, (xs.getD i []).length ≤ 1048576) : JP N [.str r0, .int r1, .int r2, .int r3, .int r4, .int r5, .int r6, .int r7, .bool r8, .int r9, .int r10, .int r11, .int r12, .rows r13, .int n, .rows (MF xs)] = some (dZ (ox (⟨r0, r1, r2, r3, r4, r5, r6, r7, r8, r9, r10, r11, r12, r13⟩ : Rul) n xs)) := by
 show JK (std (DM N) N) (xOf _) = _
 simp only [JK, Ve, KR, std, xOf, PXb, PXl, bp hN hs, tc]
 unfold ox
 cases h1 : (BW (⟨r0, r1, r2, r3, r4, r5, r6, r7, r8, r9, r10, r11, r12, r13⟩ : Rul)).2 == 0
 case false => simp only [Lc, PXb, PXc, h1]; rfl
 simp only [Lc, PXb, PXc, h1]
 cases hn : (!(n == 1) && !(n == 2))
 case true => rfl
 have hf : n = 1 ∨ n = 2 := by
  cases h1 : n == 1 with
  | true => exact Or.inl (beq_iff_eq.1 h1)
  | false =>
   rw [h1] at hn
   cases h2 : n == 2 with
   | true => exact Or.inr (beq_iff_eq.1 h2)
   | false => rw [h2] at hn; cases hn
 cases h8 : iLt 8 (xs.length : Int)
 case true => rfl
 have hl : xs.length ≤ 8 := by simp only [iLt, decide_eq_false_iff_not] at h8; omega
 simp only [PXb, Nat.reduceAdd]
 refine AN (Ng (len := xs.length) (fun i => [.int (i : Int)]) (fun i => (da (⟨r0, r1, r2, r3, r4, r5, r6, r7, r8, r9, r10, r11, r12, r13⟩ : Rul) n xs i).map dZ) ?_ ?_ xs.length 0 N (by omega) (by omega)) ?_
 ·intro self
  simp only [PXb, PXc, PXn, AA, Av]
 ·intro i self hi
  simp only [PXb, PXc, PXn, AA, AS (show i ≤ 1099511627776 by omega), Aj hi, AU hi, PXl, KR, kY hN hs (hx i), Uc, PXc, Nat.reduceAdd, tJ]
  unfold da ae
  have e : ((i + 1 : Nat) : Int) = (i : Int) + 1 := rfl
  simp only [e]
  generalize RA (⟨r0, r1, r2, r3, r4, r5, r6, r7, r8, r9, r10, r11, r12, r13⟩ : Rul) _ (xs.getD i []) = M
  cases M.2.2 == 0 <;> try rfl
  cases (!(M.1.stage == 5) || M.1.win == 6) <;> try rfl
  cases M.1.wside == 0 <;> try rfl
  cases iLt ((i : Int) + 1) (xs.length : Int) <;> rfl
 ·rw [iT]
  cases au (da (⟨r0, r1, r2, r3, r4, r5, r6, r7, r8, r9, r10, r11, r12, r13⟩ : Rul) n xs) xs.length 0 <;> rfl
theorem oA (xs : List Rows) (i : Nat) : ((ol xs).getD i []).length ≤ 1048576 := by
 unfold ol
 rw [List.getD_eq_getElem?_getD, List.getElem?_map]
 cases (xs.take 10)[i]? with
 | none => exact Nat.zero_le _
 | some x => exact Nat.le_trans (tO x 30) (show 30 ≤ 1048576 by omega)
set_option maxHeartbeats 2000000 in
theorem U1 {N : Nat} {r1 r2 r3 r4 r5 r6 r7 r9 r10 r11 r12 : Int} {r8 : Bool} {r0 : ByteArray} {r13 : Rows} {n : Int} {xs : List Rows} (ha : K7 N [] = some [.bool true]) (hN : 2097152 < N) (hs : r0.size ≤ 1048576) : CS N [.str r0, .int r1, .int r2, .int r3, .int r4, .int r5, .int r6, .int r7, .bool r8, .int r9, .int r10, .int r11, .int r12, .rows r13, .int n, .rows (MF xs)] = some [.bool true] := by
 show CZ (std (Ao N) N) (xOf _) = _
 have nn := mG (⟨r0, r1, r2, r3, r4, r5, r6, r7, r8, r9, r10, r11, r12, r13⟩ : Rul) hs
 simp only [CZ, Ly, KZ, Nj, H1, LD, std, xOf, PXb, PXc, PXn, PXm, Nat.reduceAdd, Int.reduceBEq, ha, jq, Rul.ls, qE hN, ZF hN nn (oA xs), mZ hN nn (oA xs), dZ]
end Go.Px
end
