/- Part 13. -/
import Derived.Test.YtopmcbahdgfleaaGreatPart12
set_option linter.unusedVariables false
set_option linter.unusedSimpArgs false
section
namespace Go.Px
set_option maxRecDepth 100000
def lnx (xs : List Inn) : Nat := (IntKind.i64.wrap ((xs.length : Int) - 1)).toNat
def BW (m : Mat) : Inn := inn m.inns (lnx m.inns)
theorem L9 {n : Nat} (h : ((n : Int) == 0) = false) (hl : n ≤ 1000000) : iIn (IntKind.i64.wrap ((n : Int) - 1)) (n : Int) = true := by
 rw [beq_eq_false_iff_ne] at h
 rw [Fr (by omega) (by omega)]
 simp only [iIn, decide_eq_true_eq]; omega
theorem fx {xs : List Inn} (h : ((xs.length : Int) == 0) = false) (hl : xs.length ≤ 1000000) : lnx xs < xs.length := by
 rw [beq_eq_false_iff_ne] at h
 unfold lnx
 rw [Fr (by omega) (by omega)]
 omega
def WN (r : Rul) : Int := cond (r.overs == 0) 5 6
theorem JP {N : Nat} {r1 r2 r3 r4 r5 r6 r7 r9 r10 r11 r12 : Int} {r8 : Bool} {r0 : ByteArray} {r13 : Rows}  : Bd N [.str r0, .int r1, .int r2, .int r3, .int r4, .int r5, .int r6, .int r7, .bool r8, .int r9, .int r10, .int r11, .int r12, .rows r13] = some [.int (WN (⟨r0, r1, r2, r3, r4, r5, r6, r7, r8, r9, r10, r11, r12, r13⟩ : Rul))] := by
 show FR (std (Mk N) N) (xOf _) = _
 simp only [FR, std, xOf, PXb, PXc, PXn, PXm, Nat.reduceAdd, Int.reduceBEq, WN]
theorem R0 {N : Nat} {m1 m2 m3 m4 m5 m6 m7 m9 m10 m11 m12 m14 m15 m18 m19 m20 m21 m22 : Int} {m8 m16 : Bool} {m0 : ByteArray} {m13 : Rows} {m17 : List Inn} (h : ((m17.length : Int) == 0) = false) (hl : m17.length ≤ 1000000) : Cz N [.str m0, .int m1, .int m2, .int m3, .int m4, .int m5, .int m6, .int m7, .bool m8, .int m9, .int m10, .int m11, .int m12, .rows m13, .int m14, .int m15, .bool m16, .rows (AQ m17), .int m18, .int m19, .int m20, .int m21, .int m22] = some (inn m17 (lnx m17)).ls := by
 show NF (std (JX N) N) (xOf _) = _
 simp only [NF, std, xOf, PXb, PXc, PXn, PXm, Nat.reduceAdd, Int.reduceBEq, PXi, L9 h hl, lnx]
def kz (x : Int × Int × Int) : List PV := [.int x.1, .int x.2.1, .int x.2.2]
def Lq (m : Mat) : Int × Int × Int :=
  let n : Int := m.inns.length
  let most := IntKind.i64.wrap (2 * m.rules.innings)
  let x := BW m
  cond (!CV m || n == 0) (0, 0, 0) (cond (x.ending == 5) (WN m.rules, 0, 0) (cond (x.ending == 0) (0, 0, 0)
    (cond (n == most && iLe x.target x.runs) (2, x.side, IntKind.i64.wrap (IntKind.i64.wrap (m.rules.side - 1) - x.wickets)) (cond (n == most && x.runs == IntKind.i64.wrap (x.target - 1)) (4, 0, 0)
      (cond (n == most) (1, Be x.side, IntKind.i64.wrap (IntKind.i64.wrap (x.target - 1) - x.runs))
        (cond (n == 3 && iLt (A6 m x.side) (A6 m (Be x.side))) (3, Be x.side, IntKind.i64.wrap (A6 m (Be x.side) - A6 m x.side)) (0, 0, 0)))))))
set_option maxHeartbeats 4000000 in
theorem gn {N : Nat} {m1 m2 m3 m4 m5 m6 m7 m9 m10 m11 m12 m14 m15 m18 m19 m20 m21 m22 : Int} {m8 m16 : Bool} {m0 : ByteArray} {m13 : Rows} {m17 : List Inn} (hf : C8 m17) (hN : 2097152 < N) (hl : m17.length ≤ 1000000) (hs : m0.size ≤ 1048576) : Fd N [.str m0, .int m1, .int m2, .int m3, .int m4, .int m5, .int m6, .int m7, .bool m8, .int m9, .int m10, .int m11, .int m12, .rows m13, .int m14, .int m15, .bool m16, .rows (AQ m17), .int m18, .int m19, .int m20, .int m21, .int m22] = some (kz (Lq (⟨⟨m0, m1, m2, m3, m4, m5, m6, m7, m8, m9, m10, m11, m12, m13⟩, m14, m15, m16, m17, m18, m19, m20, m21, m22⟩ : Mat))) := by
 show Ij (std (C1 N) N) (xOf _) = _
 generalize hres : (some (kz (Lq (⟨⟨m0, m1, m2, m3, m4, m5, m6, m7, m8, m9, m10, m11, m12, m13⟩, m14, m15, m16, m17, m18, m19, m20, m21, m22⟩ : Mat))) : Option (List PV)) = RR
 simp only [Ij, P8, P7, QX, L2, std, xOf, PXb, PXi, YJ hf hN hl hs, Hp, JP, Qs hN (show m17.length ≤ 1048576 by omega)]
 subst hres; simp only [Lq, BW, lnx]
 cases hv : CV (⟨⟨m0, m1, m2, m3, m4, m5, m6, m7, m8, m9, m10, m11, m12, m13⟩, m14, m15, m16, m17, m18, m19, m20, m21, m22⟩ : Mat)
 case false => rfl
 cases h0 : (m17.length : Int) == 0
 case true => rfl
 simp only [PXb, L9 h0 hl]
 generalize inn m17 (IntKind.i64.wrap ((m17.length : Int) - 1)).toNat = x
 cases x.ending == 5
 case true => rfl
 cases x.ending == 0
 case true => rfl
 cases (m17.length : Int) == IntKind.i64.wrap (2 * m2) <;> cases iLe x.target x.runs <;> cases x.runs == IntKind.i64.wrap (x.target - 1) <;> try rfl
 all_goals (cases (m17.length : Int) == 3 <;> try rfl)
 all_goals (simp only [PXb]; cases iLt (A6 (⟨⟨m0, m1, m2, m3, m4, m5, m6, m7, m8, m9, m10, m11, m12, m13⟩, m14, m15, m16, m17, m18, m19, m20, m21, m22⟩ : Mat) x.side) (A6 (⟨⟨m0, m1, m2, m3, m4, m5, m6, m7, m8, m9, m10, m11, m12, m13⟩, m14, m15, m16, m17, m18, m19, m20, m21, m22⟩ : Mat) (Be x.side)) <;> rfl)
set_option maxHeartbeats 4000000 in
theorem j5 {N : Nat} {m1 m2 m3 m4 m5 m6 m7 m9 m10 m11 m12 m14 m15 m18 m19 m20 m21 m22 : Int} {m8 m16 : Bool} {m0 : ByteArray} {m13 : Rows} {m17 : List Inn} (hf : C8 m17) (hN : 2097152 < N) (hl : m17.length ≤ 1000000) (hs : m0.size ≤ 1048576) : H7 N [.str m0, .int m1, .int m2, .int m3, .int m4, .int m5, .int m6, .int m7, .bool m8, .int m9, .int m10, .int m11, .int m12, .rows m13, .int m14, .int m15, .bool m16, .rows (AQ m17), .int m18, .int m19, .int m20, .int m21, .int m22] = some (kz (Lq (⟨⟨m0, m1, m2, m3, m4, m5, m6, m7, m8, m9, m10, m11, m12, m13⟩, m14, m15, m16, m17, m18, m19, m20, m21, m22⟩ : Mat))) := by
 show Hv (std (B5 N) N) (xOf _) = _
 generalize hres : (some (kz (Lq (⟨⟨m0, m1, m2, m3, m4, m5, m6, m7, m8, m9, m10, m11, m12, m13⟩, m14, m15, m16, m17, m18, m19, m20, m21, m22⟩ : Mat))) : Option (List PV)) = RR
 simp only [Hv, Tq, Ku, KN, KM, std, xOf, PXb, PXi, U5 hf hN hl hs, F4, Kw hN (show m17.length ≤ 1048576 by omega)]
 subst hres; simp only [Lq, BW]
 cases hv : CV (⟨⟨m0, m1, m2, m3, m4, m5, m6, m7, m8, m9, m10, m11, m12, m13⟩, m14, m15, m16, m17, m18, m19, m20, m21, m22⟩ : Mat)
 case false => rfl
 cases h0 : (m17.length : Int) == 0
 case true => rfl
 simp only [PXb, PXm, Ku, R0 h0 hl, KN, KM, F4, Kw hN (show m17.length ≤ 1048576 by omega)]
 generalize inn m17 (lnx m17) = x
 unfold WN
 cases x.ending == 5 <;> cases m3 == 0 <;> try rfl
 all_goals (cases x.ending == 0 <;> try rfl)
 all_goals (cases (m17.length : Int) == IntKind.i64.wrap (2 * m2) <;> cases iLe x.target x.runs <;> cases x.runs == IntKind.i64.wrap (x.target - 1) <;> try rfl)
 all_goals (cases (m17.length : Int) == 3 <;> try rfl)
 all_goals (simp only [PXb]; cases iLt (A6 (⟨⟨m0, m1, m2, m3, m4, m5, m6, m7, m8, m9, m10, m11, m12, m13⟩, m14, m15, m16, m17, m18, m19, m20, m21, m22⟩ : Mat) x.side) (A6 (⟨⟨m0, m1, m2, m3, m4, m5, m6, m7, m8, m9, m10, m11, m12, m13⟩, m14, m15, m16, m17, m18, m19, m20, m21, m22⟩ : Mat) (Be x.side)) <;> rfl)
theorem nG : ∀ (n k : Nat) (f : Nat → Nat), (∀ i, i < k → 1 ≤ f i ∧ f i ≤ n) → (∀ i j, i < j → j < k → f i ≠ f j) → k ≤ n
 | 0, k, f, h, _ => by
  rcases Nat.eq_zero_or_pos k with e | e
  ·omega
  ·have := h 0 e; omega
 | n + 1, 0, f, _, _ => by omega
 | n + 1, k + 1, f, h, hi => by
  by_cases he : ∃ j, j < k + 1 ∧ f j = n + 1
  ·obtain ⟨j, hj, hfj⟩ := he
   have := nG n k (fun i => if i = j then f k else f i) (fun i hik => by
    show 1 ≤ (if i = j then f k else f i) ∧ (if i = j then f k else f i) ≤ n
    by_cases e : i = j
    ·rw [if_pos e]
     have h1 := h k (by omega)
     have : f k ≠ f j := fun e2 => hi j k (by omega) (by omega) e2.symm
     omega
    ·rw [if_neg e]
     have h1 := h i (by omega)
     have : f i ≠ f j := by
      rcases Nat.lt_or_gt_of_ne e with e2 | e2
      ·exact hi i j e2 hj
      ·exact fun e3 => hi j i e2 (by omega) e3.symm
     omega) (fun a b hab hb => by
    show (if a = j then f k else f a) ≠ (if b = j then f k else f b)
    by_cases e1 : a = j
    ·have e2 : b ≠ j := by omega
     rw [if_pos e1, if_neg e2]
     exact fun e3 => hi b k hb (by omega) e3.symm
    ·rw [if_neg e1]
     by_cases e2 : b = j
     ·rw [if_pos e2]; exact hi a k (by omega) (by omega)
     ·rw [if_neg e2]; exact hi a b hab (by omega))
   omega
  ·have := nG n (k + 1) f (fun i hik => by
    have h1 := h i hik
    have : f i ≠ n + 1 := fun e => he ⟨i, hik, e⟩
    omega) hi
   omega
theorem lS {L : Rows} {n : Int} (h : FZ L n = true) (hn : 0 ≤ n) : (L.length : Int) ≤ n := by
 unfold FZ at h
 rw [Bool.not_eq_true', Fu] at h
 have hb : ∀ i, i < L.length → 1 ≤ atI L i 0 ∧ atI L i 0 ≤ n := fun i hi => by
  have := h i (by omega) (by omega)
  unfold KA at this
  rw [Bool.or_eq_false_iff, Bool.not_eq_false', bX] at this
  exact this.1
 have := nG n.toNat L.length (fun i => (atI L i 0).toNat) (fun i hi => by have := hb i hi; show 1 ≤ (atI L i 0).toNat ∧ (atI L i 0).toNat ≤ n.toNat; omega) (fun i j hij hj => by
  show (atI L i 0).toNat ≠ (atI L j 0).toNat
  have h1 := hb i (by omega)
  have h2 := hb j hj
  have h3 := h j (by omega) (by omega)
  unfold KA at h3
  rw [Bool.or_eq_false_iff] at h3
  have h4 := Fu.1 h3.2 i (by omega) (by omega)
  rw [beq_eq_false_iff_ne] at h4
  omega)
 omega
theorem R3 {r : Rul} {s : Inn} (h : Gl r s = true) : s.bowlers.length ≤ 11 ∧ s.before.length ≤ 11 ∧ s.Fit := by
 have ok := sM.1 h
 have hs := uW ok
 have h1 := lS ok.dw (by omega)
 have h2 := lS ok.df (by omega)
 have h3 := ok.lb
 have h4 := ok.ld
 have h5 := ok.lz
 exact ⟨by omega, by omega, by omega, by omega, by omega, by omega, by omega⟩
end Go.Px
end
section
namespace Go.Px
set_option maxRecDepth 100000
def Xb (m : Mat) (e : Ev) : Mat × Int :=
  let sd := Dg m (m.inns.length : Int)
  let b := Bk m.rules sd (Gi m sd) (cond (sd == 2) m.pen2 m.pen1)
  let t := Cf m.rules b.1 e
  cond (!(b.2 == 0)) (m, 1) (cond (!(t.2 == 0)) (m, t.2)
    ({ m with stage := 3, inns := m.inns ++ [t.1], pen1 := cond (sd == 1) 0 m.pen1, pen2 := cond (sd == 2) 0 m.pen2 }, 0))
def Re (xs : List Inn) (sd : Int) : Nat → Option Nat
 | 0 => none
 | k + 1 => cond ((inn xs k).side == sd) (some k) (Re xs sd k)
def K0 (m : Mat) (sd : Int) : Mat := match Re m.inns sd m.inns.length with
 | some k => { m with inns := m.inns.set k (N1 (inn m.inns k)) }
 | none => { m with pen1 := cond (sd == 1) (IntKind.i64.wrap (m.pen1 + 5)) m.pen1, pen2 := cond (sd == 2) (IntKind.i64.wrap (m.pen2 + 5)) m.pen2 }
def bZ (m : Mat) (e : Ev) : Mat × Int :=
 let t := Cf m.rules (BW m) e
 cond (!(t.2 == 0)) (m, t.2) (cond (e.kind == 13 && !(e.side == t.1.side)) (K0 { m with inns := m.inns.set (lnx m.inns) t.1 } e.side) { m with inns := m.inns.set (lnx m.inns) t.1 }, 0)
def kr (m : Mat) : Mat := { m with inns := cond (m.stage == 3) (m.inns.set (lnx m.inns) { BW m with ending := 5 }) m.inns, stage := 5, win := WN m.rules, wside := 0, margin := 0 }
def HR (m : Mat) (e : Ev) : Mat × Int :=
  cond (e.kind == 1) (cond (!(m.stage == 1)) (m, 1) ({ m with first := cond e.yes e.side (Be e.side), stage := 2 }, 0))
    (cond (e.kind == 2) (cond (!(m.stage == 2)) (m, 1) (Xb m e))
      (cond (e.kind == 12) (cond (!(m.stage == 4)) (m, 1) (cond (!(e.side == m.first)) (m, 2) ({ m with follow := e.yes, stage := 2 }, 0)))
        (cond (e.kind == 16) (kr m, 0) (cond (!(m.stage == 3)) (m, 1) (bZ m e)))))
def Oo (m : Mat) : Mat :=
  let n : Int := m.inns.length
  let sd := (BW m).side
  let o := Lq { m with stage := 5 }
  cond (n == IntKind.i64.wrap (2 * m.rules.innings) || (n == 3 && iLt (A6 m sd) (A6 m (Be sd)))) { m with stage := 5, win := o.1, wside := o.2.1, margin := o.2.2 }
    (cond (n == 2 && iLt 0 m.rules.followon && iLe m.rules.followon (IntKind.i64.wrap (A6 m m.first - A6 m (Be m.first)))) { m with stage := 4 } { m with stage := 2 })
def NX (m : Mat) : Mat := cond (m.stage == 3 && !((BW m).ending == 0)) (Oo m) m
def DC (m : Mat) (e : Ev) : Mat × Int :=
 cond (!CV m || !(evS e == 0)) (m, 1) (cond (m.stage == 5) (m, 26) (cond (!((HR m e).2 == 0)) (m, (HR m e).2) (NX (HR m e).1, 0)))
theorem bind_ok {X : Option (List PV)} {r : List PV} {k : List PV → Option (List PV)} {g : Option (List PV)} (h : X = some r) (hk : k r = g) : X.bind k = g := by rw [h]; exact hk
structure MatOk (m : Mat) : Prop where
 code : BH m.rules = 0
 len : m.inns.length ≤ 4
 innv : ∀ i, i < m.inns.length → Gl m.rules (inn m.inns i) = true ∧ (inn m.inns i).side = Dg m (i : Int)
 begun : (m.stage == 3) = true → ((m.inns.length : Int) == 0) = false
 toss : (m.stage == 2) = true → m.first = 1 ∨ m.first = 2
 room : (m.stage == 2) = true → (m.inns.length : Int) < 2 * m.rules.innings
 most : IntKind.i64.wrap (2 * m.rules.innings) = 2 * m.rules.innings ∧ (m.inns.length : Int) ≤ 2 * m.rules.innings
theorem Z3 {m : Mat} (h : CV m = true) : MatOk m := by
 unfold CV lC at h
 simp only [Bool.and_eq_true, Bool.not_eq_true'] at h
 obtain ⟨⟨h1, h2, h3, h4, h5, h6, h7, h8, h9, h10⟩, h11, h12⟩ := h
 have hc := beq_iff_eq.1 h1
 have rk := (KC hc).innings
 have e2 : IntKind.i64.wrap (2 * m.rules.innings) = 2 * m.rules.innings := Fr (by omega) (by omega)
 rw [e2] at h5 h8
 rw [Bool.or_eq_false_iff, Bool.or_eq_false_iff] at h5
 have hn := h5.2
 have hf1 := h5.1.1
 have hf2 := h5.1.2
 simp only [iLt, decide_eq_false_iff_not] at hn hf1 hf2
 refine ⟨hc, by omega, fun i hi => ?_, fun hs => ?_, fun hs => ?_, fun hs => ?_, e2, by omega⟩
 ·have := Fu.1 h11 i (by omega) (by omega)
  unfold I8 at this
  rw [Bool.or_eq_false_iff, Bool.not_eq_false', Bool.not_eq_false', beq_iff_eq] at this
  exact this
 ·unfold WH at h12
  rw [hs, Bool.and_eq_true] at h12
  have := h12.2
  simp only [iLt, Bool.not_true, Bool.false_or, decide_eq_true_eq] at this
  exact beq_false_of_ne (by omega)
 ·rw [beq_iff_eq.1 hs] at h6
  cases h0 : m.first == 0 with
  | true => rw [h0] at h6; simp at h6
  | false =>
   rw [beq_eq_false_iff_ne] at h0
   omega
 ·rw [hs, Bool.true_and, beq_eq_false_iff_ne] at h8
  omega
theorem nV {m : Mat} (h : m.first = 1 ∨ m.first = 2) (i : Int) : Dg m i = 1 ∨ Dg m i = 2 := by
 unfold Dg
 cases cond (m.follow && iLe 2 i) (i == 2) (i.tmod 2 == 1) with
 | false => exact h
 | true => rcases h with h | h <;> rw [h] <;> decide
theorem sN {m : Mat} (h : MatOk m) : C8 m.inns := fun i hi => (R3 (h.innv i hi).1).2.2
theorem Xo {F : (List Ai → Option (List PV)) → List PV → Option (List PV)} {len : Nat} (enc : Nat → List Ai) (ans : Nat → Option (List PV))
    (h0 : ∀ self, F self ((enc len).map Leaf.pv) = some [.int 1]) (h1 : ∀ i self, i < len → F self ((enc i).map Leaf.pv) = match ans i with | some r => some (.int 0 :: r) | none => self (enc (i + 1))) :
    ∀ (k i n : Nat), i + k = len → k < n → HN F n ((enc i).map Leaf.pv) = some (R6 (B1 ans k i))
  | 0, i, n, hk, hn => by
    obtain ⟨n, rfl⟩ : ∃ m, n = m + 1 := ⟨n - 1, by omega⟩
    obtain rfl : i = len := by omega
    exact h0 _
  | k + 1, i, n, hk, hn => by
    obtain ⟨n, rfl⟩ : ∃ m, n = m + 1 := ⟨n - 1, by omega⟩
    show F _ _ = _
    rw [h1 i _ (by omega)]
    simp only [B1]
    cases ans i with
    | some r => rfl
    | none => exact Xo enc ans h0 h1 k (i + 1) n (by omega) (by omega)
theorem jC (ys : List Inn) (sd : Int) (g : Nat → List PV) (n : Nat) : ∀ k, k ≤ n → B1 (fun j => cond ((inn ys (n - 1 - j)).side == sd) (some (g (n - 1 - j))) none) k (n - k) = (Re ys sd k).map g
 | 0, _ => rfl
 | k + 1, h => by
  have ih := jC ys sd g n k (by omega)
  have e : n - 1 - (n - (k + 1)) = k := by omega
  have e2 : n - (k + 1) + 1 = n - k := by omega
  simp only [B1, Re, e, e2, ih]
  cases (inn ys k).side == sd <;> rfl
theorem ua (xs : List Inn) (k : Nat) (s : Inn) (i : Nat) (hi : i < xs.length) : inn (xs.set k s) i = (if k = i then s else inn xs i) := by
 rw [SZ, SZ, List.getElem?_set]
 by_cases h : k = i
 ·subst h
  rw [if_pos rfl, if_pos rfl, if_pos hi]
 ·rw [if_neg h, if_neg h]
theorem Sl {xs : List Inn} {s : Inn} (k : Nat) (h : C8 xs) (hs : s.Fit) : C8 (xs.set k s) := fun i hi => by
 rw [List.length_set] at hi
 rw [ua xs k s i hi]
 by_cases e : k = i
 ·rw [if_pos e]; exact hs
 ·rw [if_neg e]; exact h i hi
theorem jQ {e : Ev} (h : (evS e == 0) = true) (hk : (e.kind == 13) = true) : e.side = 1 ∨ e.side = 2 := by
 have h0 := bP h
 rw [beq_iff_eq] at hk
 unfold evS at h
 rw [h0] at h
 cases h1 : ik e with
 | true => rw [h1] at h; cases h
 | false =>
  cases h2 : Zy e with
  | true => rw [h1, h2] at h; cases h
  | false =>
   unfold Zy at h2
   rw [Bool.or_eq_false_iff] at h2
   have h3 := h2.1
   rw [hk, show uS 13 = true from rfl, Bool.and_true] at h3
   simp only [btw, iLe, Bool.not_eq_false', Bool.and_eq_true, decide_eq_true_eq] at h3
   omega
theorem ug (xs : List Inn) (s : Inn) (i : Nat) (hi : i < xs.length + 1) : inn (xs ++ [s]) i = (if i < xs.length then inn xs i else s) := by
 rw [SZ, SZ]
 by_cases h : i < xs.length
 ·rw [if_pos h, List.getElem?_append_left h]
 ·have : i = xs.length := by omega
  subst this
  rw [if_neg h, List.getElem?_append_right (Nat.le_refl _), Nat.sub_self]
  rfl
theorem tc {xs : List Inn} {s : Inn} (h : C8 xs) (hs : s.Fit) : C8 (xs ++ [s]) := fun i hi => by
 rw [List.length_append] at hi
 rw [ug xs s i hi]
 by_cases e : i < xs.length
 ·rw [if_pos e]; exact h i e
 ·rw [if_neg e]; exact hs
theorem iv (r : Rul) (a b c : Int) (e : Ev) : (Cf r (Bk r a b c).1 e).1.Fit := by
 obtain ⟨f, h1, h2⟩ := HX r a b c
 exact Ka (Uq r _ e) f (by rw [h1, h2]; exact Nat.zero_le _)
structure ActOk (m : Mat) (x : Mat × Int) : Prop where
 rules : x.1.rules = m.rules
 fit : C8 x.1.inns
 len : x.1.inns.length ≤ 5
 some' : (x.2 == 0) = true → (x.1.stage == 3) = true → ((x.1.inns.length : Int) == 0) = false
theorem A_c {m : Mat} (b : Bool) (x y : Mat × Int) (hx : ActOk m x) (hy : ActOk m y) : ActOk m (cond b x y) := by cases b <;> assumption
theorem tP {m : Mat} (sd : Int) (hf : C8 m.inns) : (K0 m sd).rules = m.rules ∧ C8 (K0 m sd).inns ∧ (K0 m sd).inns.length = m.inns.length ∧ (K0 m sd).stage = m.stage := by
 unfold K0
 cases h : Re m.inns sd m.inns.length with
 | none => exact ⟨rfl, hf, rfl, rfl⟩
 | some k =>
  have hk : k < m.inns.length := by
   have : ∀ n, Re m.inns sd n = some k → k < n := by
    intro n
    induction n with
    | zero => intro h; cases h
    | succ n ih =>
     intro h
     unfold Re at h
     cases hq : (inn m.inns n).side == sd with
     | true => rw [hq] at h; cases h; omega
     | false => rw [hq] at h; have := ih h; omega
   exact this _ h
  exact ⟨rfl, Sl k hf (uj (hf k hk)), List.length_set, rfl⟩
theorem mM {m : Mat} (ok : MatOk m) (e : Ev) : ActOk m (HR m e) := by
 have hf := sN ok
 have hl := ok.len
 have self : ∀ n : Int, (n == 0) = false → ActOk m (m, n) := fun n hn => ⟨rfl, hf, by show m.inns.length ≤ 5; omega, fun h => by rw [hn] at h; cases h⟩
 unfold HR
 refine A_c _ _ _ (A_c _ _ _ (self 1 rfl) ⟨rfl, hf, by show m.inns.length ≤ 5; omega, fun _ h => by cases h⟩) (A_c _ _ _ ?_ (A_c _ _ _ ?_ (A_c _ _ _ ?_ ?_)))
 ·refine A_c _ _ _ (self 1 rfl) ?_
  unfold Xb
  refine A_c _ _ _ (self 1 rfl) ?_
  cases hq : (Cf m.rules (Bk m.rules (Dg m (m.inns.length : Int)) (Gi m (Dg m (m.inns.length : Int))) (cond (Dg m (m.inns.length : Int) == 2) m.pen2 m.pen1)).1 e).2 == 0 with
  | false =>
   simp only [Bool.not_false, cond_true]
   exact self _ hq
  | true =>
   simp only [Bool.not_true, cond_false]
   exact ⟨rfl, tc hf (iv _ _ _ _ e), by simp; omega, fun _ _ => by
    show ((((m.inns ++ [_]).length : Nat) : Int) == 0) = false
    rw [List.length_append]
    exact beq_false_of_ne (by simp; omega)⟩
 ·exact A_c _ _ _ (self 1 rfl) (A_c _ _ _ (self 2 rfl) ⟨rfl, hf, by show m.inns.length ≤ 5; omega, fun _ h => by cases h⟩)
 ·unfold kr
  cases h3 : m.stage == 3 with
  | false => exact ⟨rfl, hf, by show m.inns.length ≤ 5; omega, fun _ h => by cases h⟩
  | true =>
   have h0 := ok.begun h3
   have fl := hf (lnx m.inns) (fx h0 (by omega))
   exact ⟨rfl, Sl _ hf ⟨fl.bt, fl.bw, fl.bf, fl.bd, fl.sb⟩, by show (m.inns.set _ _).length ≤ 5; rw [List.length_set]; omega, fun _ h => by cases h⟩
 ·cases h3 : m.stage == 3 with
  | false => exact self 1 rfl
  | true =>
   have h0 := ok.begun h3
   have lv := R3 (ok.innv (lnx m.inns) (fx h0 (by omega))).1
   have h1 := lv.1
   have h2 := lv.2.1
   have ft := Ka (Uq m.rules (BW m) e) lv.2.2 (show (inn m.inns (lnx m.inns)).before.length + (inn m.inns (lnx m.inns)).bowlers.length ≤ 1048575 by omega)
   simp only [Bool.not_true, cond_false, bZ]
   cases hq : (Cf m.rules (BW m) e).2 == 0 with
   | false =>
    simp only [Bool.not_false, Bool.not_true, cond_true, cond_false]
    exact self _ hq
   | true =>
    have fs := Sl (lnx m.inns) hf ft
    have ln : (m.inns.set (lnx m.inns) (Cf m.rules (BW m) e).1).length = m.inns.length := List.length_set
    simp only [Bool.not_true, cond_false]
    cases (e.kind == 13 && !(e.side == (Cf m.rules (BW m) e).1.side)) with
    | false =>
     exact ⟨rfl, fs, by show (m.inns.set _ _).length ≤ 5; omega, fun _ _ => by
      show ((((m.inns.set _ _).length : Nat) : Int) == 0) = false
      rw [ln]; exact h0⟩
    | true =>
     obtain ⟨a1, a2, a3, a4⟩ := tP (m := { m with inns := m.inns.set (lnx m.inns) (Cf m.rules (BW m) e).1 }) e.side fs
     exact ⟨a1, a2, by show (K0 _ _).inns.length ≤ 5; rw [a3]; show (m.inns.set _ _).length ≤ 5; omega, fun _ _ => by
      show ((((K0 _ _).inns.length : Nat) : Int) == 0) = false
      rw [a3]
      show ((((m.inns.set _ _).length : Nat) : Int) == 0) = false
      rw [ln]; exact h0⟩
end Go.Px
end
section
namespace Go.Px
set_option maxRecDepth 100000
set_option maxHeartbeats 8000000 in
theorem me {N : Nat} {m1 m2 m3 m4 m5 m6 m7 m9 m10 m11 m12 m14 m15 m18 m19 m20 m21 m22 : Int} {m8 m16 : Bool} {m0 : ByteArray} {m13 : Rows} {m17 : List Inn} {e0 e1 e2 e3 e5 e6 e7 e8 e9 e10 e11 e13 e14 e15 e16 e18 : Int} {e4 e12 e17 : Bool} (hN : 2097152 < N) (hf : C8 m17) (hl : m17.length ≤ 1000000) (hs : m0.size ≤ 1048576) (h13 : m13.length ≤ 1048576) : Ml N [.str m0, .int m1, .int m2, .int m3, .int m4, .int m5, .int m6, .int m7, .bool m8, .int m9, .int m10, .int m11, .int m12, .rows m13, .int m14, .int m15, .bool m16, .rows (AQ m17), .int m18, .int m19, .int m20, .int m21, .int m22, .int e0, .int e1, .int e2, .int e3, .bool e4, .int e5, .int e6, .int e7, .int e8, .int e9, .int e10, .int e11, .bool e12, .int e13, .int e14, .int e15, .int e16, .bool e17, .int e18] = some (GH (DC (⟨⟨m0, m1, m2, m3, m4, m5, m6, m7, m8, m9, m10, m11, m12, m13⟩, m14, m15, m16, m17, m18, m19, m20, m21, m22⟩ : Mat) (⟨e0, e1, e2, e3, e4, e5, e6, ⟨e7, e8, e9, e10, e11, e12, e13, e14, e15, e16, e17, e18⟩⟩ : Ev))) := by
 show Nt (std (A1 N) N) (xOf _) = _
 generalize hres : (some (GH (DC (⟨⟨m0, m1, m2, m3, m4, m5, m6, m7, m8, m9, m10, m11, m12, m13⟩, m14, m15, m16, m17, m18, m19, m20, m21, m22⟩ : Mat) (⟨e0, e1, e2, e3, e4, e5, e6, ⟨e7, e8, e9, e10, e11, e12, e13, e14, e15, e16, e17, e18⟩⟩ : Ev))) : Option (List PV)) = RR
 simp only [Nt, Cm, Dt, GN, S8, TO, Ta, EU, Ec, JG, Hz, EC, C7, std, xOf, PXb, YJ hf hN hl hs, YT hN, jz hf hN hl h13]
 subst hres; simp only [DC]
 cases hv : CV (⟨⟨m0, m1, m2, m3, m4, m5, m6, m7, m8, m9, m10, m11, m12, m13⟩, m14, m15, m16, m17, m18, m19, m20, m21, m22⟩ : Mat)
 case false => rfl
 cases he : evS (⟨e0, e1, e2, e3, e4, e5, e6, ⟨e7, e8, e9, e10, e11, e12, e13, e14, e15, e16, e17, e18⟩⟩ : Ev) == 0
 case false => simp only [PXb, he]; rfl
 simp only [PXb, he]
 cases h5 : m14 == 5
 case true => rfl
 simp only [PXb]
 have ok := Z3 hv
 refine bind_ok (r := .int (HR (⟨⟨m0, m1, m2, m3, m4, m5, m6, m7, m8, m9, m10, m11, m12, m13⟩, m14, m15, m16, m17, m18, m19, m20, m21, m22⟩ : Mat) (⟨e0, e1, e2, e3, e4, e5, e6, ⟨e7, e8, e9, e10, e11, e12, e13, e14, e15, e16, e17, e18⟩⟩ : Ev)).2 :: (HR (⟨⟨m0, m1, m2, m3, m4, m5, m6, m7, m8, m9, m10, m11, m12, m13⟩, m14, m15, m16, m17, m18, m19, m20, m21, m22⟩ : Mat) (⟨e0, e1, e2, e3, e4, e5, e6, ⟨e7, e8, e9, e10, e11, e12, e13, e14, e15, e16, e17, e18⟩⟩ : Ev)).1.ls) ?_ ?_
 ·unfold HR
  cases hk1 : e0 == 1
  case true =>
   simp only [PXb, Ec, Hp]
   cases m14 == 1 <;> cases e4 <;> rfl
  cases hk2 : e0 == 2
  case true =>
   simp only [PXb]
   cases hs2 : m14 == 2
   case false => rfl
   have hl2 : m17.length ≤ 1048576 := by omega
   have h304 : iSm ((m17.length + 1 : Nat) : Int) 304 = true := Ey (by omega) (by omega)
   have fb := fun a b c => (HX (⟨⟨m0, m1, m2, m3, m4, m5, m6, m7, m8, m9, m10, m11, m12, m13⟩, m14, m15, m16, m17, m18, m19, m20, m21, m22⟩ : Mat).rules a b c).1
   have wb : ∀ a b c, (Bk (⟨⟨m0, m1, m2, m3, m4, m5, m6, m7, m8, m9, m10, m11, m12, m13⟩, m14, m15, m16, m17, m18, m19, m20, m21, m22⟩ : Mat).rules a b c).1.before.length + (Bk (⟨⟨m0, m1, m2, m3, m4, m5, m6, m7, m8, m9, m10, m11, m12, m13⟩, m14, m15, m16, m17, m18, m19, m20, m21, m22⟩ : Mat).rules a b c).1.bowlers.length ≤ 1000000 := fun a b c => by
    rw [(HX (⟨⟨m0, m1, m2, m3, m4, m5, m6, m7, m8, m9, m10, m11, m12, m13⟩, m14, m15, m16, m17, m18, m19, m20, m21, m22⟩ : Mat).rules a b c).2.1, (HX (⟨⟨m0, m1, m2, m3, m4, m5, m6, m7, m8, m9, m10, m11, m12, m13⟩, m14, m15, m16, m17, m18, m19, m20, m21, m22⟩ : Mat).rules a b c).2.2]
    exact Nat.zero_le _
   rcases nV (m := (⟨⟨m0, m1, m2, m3, m4, m5, m6, m7, m8, m9, m10, m11, m12, m13⟩, m14, m15, m16, m17, m18, m19, m20, m21, m22⟩ : Mat)) (ok.toss hs2) (m17.length : Int) with ho | ho
   ·simp only [PXb, PXc, CM, So, Nat.reduceAdd, Int.reduceBEq, PXi, PXr, Inn.eta, AX, List.length_append, List.length_cons, List.length_nil, h304, Xb, EU, EC, Dt, Cm, Q4, WY hN hl2, UQ hN hs, O2 (fb _ _ _) (wb _ _ _) hN hs h13, ho, wr1, wr2, VG, VW]
    cases (Bk (⟨⟨m0, m1, m2, m3, m4, m5, m6, m7, m8, m9, m10, m11, m12, m13⟩, m14, m15, m16, m17, m18, m19, m20, m21, m22⟩ : Mat).rules 1 (Gi (⟨⟨m0, m1, m2, m3, m4, m5, m6, m7, m8, m9, m10, m11, m12, m13⟩, m14, m15, m16, m17, m18, m19, m20, m21, m22⟩ : Mat) 1) m18).2 == 0 <;> try rfl
    cases (Cf (⟨⟨m0, m1, m2, m3, m4, m5, m6, m7, m8, m9, m10, m11, m12, m13⟩, m14, m15, m16, m17, m18, m19, m20, m21, m22⟩ : Mat).rules (Bk (⟨⟨m0, m1, m2, m3, m4, m5, m6, m7, m8, m9, m10, m11, m12, m13⟩, m14, m15, m16, m17, m18, m19, m20, m21, m22⟩ : Mat).rules 1 (Gi (⟨⟨m0, m1, m2, m3, m4, m5, m6, m7, m8, m9, m10, m11, m12, m13⟩, m14, m15, m16, m17, m18, m19, m20, m21, m22⟩ : Mat) 1) m18).1 (⟨e0, e1, e2, e3, e4, e5, e6, ⟨e7, e8, e9, e10, e11, e12, e13, e14, e15, e16, e17, e18⟩⟩ : Ev)).2 == 0 <;> rfl
   ·simp only [PXb, PXc, CM, So, Nat.reduceAdd, Int.reduceBEq, PXi, PXr, Inn.eta, AX, List.length_append, List.length_cons, List.length_nil, h304, Xb, EU, EC, Dt, Cm, Q4, WY hN hl2, UQ hN hs, O2 (fb _ _ _) (wb _ _ _) hN hs h13, ho, wr1, wr2, VG, VW]
    cases (Bk (⟨⟨m0, m1, m2, m3, m4, m5, m6, m7, m8, m9, m10, m11, m12, m13⟩, m14, m15, m16, m17, m18, m19, m20, m21, m22⟩ : Mat).rules 2 (Gi (⟨⟨m0, m1, m2, m3, m4, m5, m6, m7, m8, m9, m10, m11, m12, m13⟩, m14, m15, m16, m17, m18, m19, m20, m21, m22⟩ : Mat) 2) m19).2 == 0 <;> try rfl
    cases (Cf (⟨⟨m0, m1, m2, m3, m4, m5, m6, m7, m8, m9, m10, m11, m12, m13⟩, m14, m15, m16, m17, m18, m19, m20, m21, m22⟩ : Mat).rules (Bk (⟨⟨m0, m1, m2, m3, m4, m5, m6, m7, m8, m9, m10, m11, m12, m13⟩, m14, m15, m16, m17, m18, m19, m20, m21, m22⟩ : Mat).rules 2 (Gi (⟨⟨m0, m1, m2, m3, m4, m5, m6, m7, m8, m9, m10, m11, m12, m13⟩, m14, m15, m16, m17, m18, m19, m20, m21, m22⟩ : Mat) 2) m19).1 (⟨e0, e1, e2, e3, e4, e5, e6, ⟨e7, e8, e9, e10, e11, e12, e13, e14, e15, e16, e17, e18⟩⟩ : Ev)).2 == 0 <;> rfl
  cases hk3 : e0 == 12
  case true =>
   simp only [PXb]
   cases m14 == 4 <;> cases e1 == m15 <;> rfl
  cases hk4 : e0 == 16
  case true =>
   simp only [PXb, kr]
   cases h3 : m14 == 3
   case false => simp only [PXb, PXc, PXi, PXr, CM, Nat.reduceAdd, C7, JP]; rfl
   simp only [PXb, PXc, PXi, PXr, CM, Nat.reduceAdd, L9 (ok.begun h3) hl, C7, JP]
   rfl
  simp only [PXb]
  cases h3 : m14 == 3
  case false => rfl
  have h0 := ok.begun h3
  have lv := R3 (ok.innv (lnx m17) (fx h0 hl)).1
  have fl : (inn m17 (IntKind.i64.wrap ((m17.length : Int) - 1)).toNat).Fit := lv.2.2
  have wl : (inn m17 (IntKind.i64.wrap ((m17.length : Int) - 1)).toNat).before.length + (inn m17 (IntKind.i64.wrap ((m17.length : Int) - 1)).toNat).bowlers.length ≤ 1000000 := by
   have h1 := lv.1
   have h2 := lv.2.1
   change (inn m17 (IntKind.i64.wrap ((m17.length : Int) - 1)).toNat).bowlers.length ≤ 11 at h1
   change (inn m17 (IntKind.i64.wrap ((m17.length : Int) - 1)).toNat).before.length ≤ 11 at h2
   omega
  have f1 := Ka (Uq (⟨⟨m0, m1, m2, m3, m4, m5, m6, m7, m8, m9, m10, m11, m12, m13⟩, m14, m15, m16, m17, m18, m19, m20, m21, m22⟩ : Mat).rules (inn m17 (IntKind.i64.wrap ((m17.length : Int) - 1)).toNat) (⟨e0, e1, e2, e3, e4, e5, e6, ⟨e7, e8, e9, e10, e11, e12, e13, e14, e15, e16, e17, e18⟩⟩ : Ev)) fl (by omega)
  simp only [PXb, PXc, PXi, PXr, AX, Inn.eta, CM, Nat.reduceAdd, List.length_set, L9 h0 hl, Cm, O2 fl wl hN hs h13, bZ, BW, lnx]
  generalize hX : Cf (⟨⟨m0, m1, m2, m3, m4, m5, m6, m7, m8, m9, m10, m11, m12, m13⟩, m14, m15, m16, m17, m18, m19, m20, m21, m22⟩ : Mat).rules (inn m17 (IntKind.i64.wrap ((m17.length : Int) - 1)).toNat) (⟨e0, e1, e2, e3, e4, e5, e6, ⟨e7, e8, e9, e10, e11, e12, e13, e14, e15, e16, e17, e18⟩⟩ : Ev) = X at f1
  have fy := Sl (IntKind.i64.wrap ((m17.length : Int) - 1)).toNat hf f1
  generalize hy : m17.set (IntKind.i64.wrap ((m17.length : Int) - 1)).toNat X.1 = ys at fy
  have ly : ys.length = m17.length := by rw [← hy, List.length_set]
  cases X.2 == 0 <;> try rfl
  cases h13k : e0 == 13
  case false => rfl
  cases hsd : e1 == X.1.side
  case true => rfl
  simp only [PXb, Option.bind_assoc]
  have e0w : IntKind.i64.wrap ((m17.length : Int) - 1) = (m17.length : Int) - 1 - ((0 : Nat) : Int) := by
   rw [beq_eq_false_iff_ne] at h0
   rw [Fr (by omega) (by omega)]; omega
  rw [e0w]
  have hside := jQ (e := (⟨e0, e1, e2, e3, e4, e5, e6, ⟨e7, e8, e9, e10, e11, e12, e13, e14, e15, e16, e17, e18⟩⟩ : Ev)) he h13k
  simp only at hside
  refine AJ (Xo (len := m17.length) (fun j => [.int ((m17.length : Int) - 1 - (j : Int))]) (fun j => cond ((inn ys (m17.length - 1 - j)).side == e1) (some [PV.str m0, PV.int m1, PV.int m2, PV.int m3, PV.int m4, PV.int m5, PV.int m6, PV.int m7, PV.bool m8, PV.int m9, PV.int m10, PV.int m11, PV.int m12, PV.rows m13, PV.int m14, PV.int m15, PV.bool m16, PV.rows (AQ (ys.set (m17.length - 1 - j) (N1 (inn ys (m17.length - 1 - j))))), PV.int m18, PV.int m19, PV.int m20, PV.int m21, PV.int m22]) none) ?_ ?_ m17.length 0 N (by omega) (by omega)) ?_
  ·intro self
   have q1 : iLe 0 ((m17.length : Int) - 1 - (m17.length : Int)) = false := by simp only [iLe, decide_eq_false_iff_not]; omega
   simp only [PXb, q1]
  ·intro i self hi
   have q1 : iLe 0 ((m17.length : Int) - 1 - (i : Int)) = true := by simp only [iLe, decide_eq_true_eq]; omega
   have q2 : iIn ((m17.length : Int) - 1 - (i : Int)) (m17.length : Int) = true := by simp only [iIn, decide_eq_true_eq]; omega
   have q3 : ((m17.length : Int) - 1 - (i : Int)).toNat = m17.length - 1 - i := by omega
   have q4 : IntKind.i64.wrap ((m17.length : Int) - 1 - (i : Int) - 1) = (m17.length : Int) - 1 - ((i + 1 : Nat) : Int) := by rw [Fr (by omega) (by omega)]; omega
   have q5 := fy (m17.length - 1 - i) (by omega)
   simp only [PXb, PXc, q1, q2, q3, q4, GN, RG q5, PXm]
   cases (inn ys (m17.length - 1 - i)).side == e1 <;> rfl
  ·have hfa := jC ys e1 (fun k => [PV.str m0, PV.int m1, PV.int m2, PV.int m3, PV.int m4, PV.int m5, PV.int m6, PV.int m7, PV.bool m8, PV.int m9, PV.int m10, PV.int m11, PV.int m12, PV.rows m13, PV.int m14, PV.int m15, PV.bool m16, PV.rows (AQ (ys.set k (N1 (inn ys k)))), PV.int m18, PV.int m19, PV.int m20, PV.int m21, PV.int m22]) m17.length m17.length (Nat.le_refl _)
   rw [Nat.sub_self] at hfa
   rw [hfa]
   unfold K0
   simp only [ly]
   cases Re ys e1 m17.length with
   | some k => rfl
   | none =>
    rcases hside with h | h <;> subst h
    ·simp only [Option.map_none, R6, PXb, PXc, CM, Int.reduceBEq, wr1, VG]
     rfl
    ·simp only [Option.map_none, R6, PXb, PXc, CM, Int.reduceBEq, wr2, VW]
     rfl
 ·have ak := mM ok (⟨e0, e1, e2, e3, e4, e5, e6, ⟨e7, e8, e9, e10, e11, e12, e13, e14, e15, e16, e17, e18⟩⟩ : Ev)
  generalize HR (⟨⟨m0, m1, m2, m3, m4, m5, m6, m7, m8, m9, m10, m11, m12, m13⟩, m14, m15, m16, m17, m18, m19, m20, m21, m22⟩ : Mat) (⟨e0, e1, e2, e3, e4, e5, e6, ⟨e7, e8, e9, e10, e11, e12, e13, e14, e15, e16, e17, e18⟩⟩ : Ev) = A at ak
  obtain ⟨⟨⟨a0, a1, a2, a3, a4, a5, a6, a7, a8, a9, a10, a11, a12, a13⟩, a14, a15, a16, a17, a18, a19, a20, a21, a22⟩, l⟩ := A
  obtain ⟨k1, k2, k3, k4⟩ := ak
  simp only at k1 k2 k3 k4
  have hl5 : a17.length ≤ 1048576 := by omega
  have hs5 : a0.size ≤ 1048576 := by
   have := congrArg Rul.name k1
   simp only at this
   rw [this]; exact hs
  simp only [PXb, PXc, PXk, PXi, CM, Nat.reduceAdd]
  cases hl0 : l == 0
  case false => rfl
  simp only [PXb, NX]
  cases h3 : a14 == 3
  case false => rfl
  have h0 := k4 hl0 h3
  have li := L9 h0 (show a17.length ≤ 1000000 by omega)
  simp only [PXb, PXc, PXi, li]
  cases he2 : (inn a17 (IntKind.i64.wrap ((a17.length : Int) - 1)).toNat).ending == 0
  case true => simp only [PXb, BW, lnx, he2]
  simp only [PXb, PXc, PXi, BW, lnx, he2, JG, Ec, Hz, Qs hN hl5, Hp, gn k2 hN (show a17.length ≤ 1000000 by omega) hs5]
  unfold Oo
  simp only [BW, lnx]
  simp only [A6, BW, lnx]
  cases hq1 : ((a17.length : Int) == IntKind.i64.wrap (2 * a2))
  case true => rfl
  cases hq2 : ((a17.length : Int) == 3)
  case true =>
   simp only [PXb]
   cases iLt (Fy a17 (inn a17 (IntKind.i64.wrap ((a17.length : Int) - 1)).toNat).side a17.length) (Fy a17 (Be (inn a17 (IntKind.i64.wrap ((a17.length : Int) - 1)).toNat).side) a17.length)
   case true => rfl
   simp only [PXb]
   cases ((a17.length : Int) == 2) && iLt 0 a10 && iLe a10 (IntKind.i64.wrap (Fy a17 a15 a17.length - Fy a17 (Be a15) a17.length)) <;> rfl
  simp only [PXb]
  cases ((a17.length : Int) == 2) && iLt 0 a10 && iLe a10 (IntKind.i64.wrap (Fy a17 a15 a17.length - Fy a17 (Be a15) a17.length)) <;> rfl
end Go.Px
end
section
namespace Go.Px
set_option maxRecDepth 100000
def Sw (m : Mat) : Int := cond (!CV m) 0 (cond (m.stage == 3) (BW m).side (cond (m.stage == 2) (Dg m (m.inns.length : Int)) 0))
theorem kf {N : Nat} {m1 m2 m3 m4 m5 m6 m7 m9 m10 m11 m12 m14 m15 m18 m19 m20 m21 m22 : Int} {m8 m16 : Bool} {m0 : ByteArray} {m13 : Rows} {m17 : List Inn} (hf : C8 m17) (hN : 2097152 < N) (hl : m17.length ≤ 1000000) (hs : m0.size ≤ 1048576) : IB N [.str m0, .int m1, .int m2, .int m3, .int m4, .int m5, .int m6, .int m7, .bool m8, .int m9, .int m10, .int m11, .int m12, .rows m13, .int m14, .int m15, .bool m16, .rows (AQ m17), .int m18, .int m19, .int m20, .int m21, .int m22] = some [.int (Sw (⟨⟨m0, m1, m2, m3, m4, m5, m6, m7, m8, m9, m10, m11, m12, m13⟩, m14, m15, m16, m17, m18, m19, m20, m21, m22⟩ : Mat))] := by
 show H5 (std (CT N) N) (xOf _) = _
 generalize hres : (some [.int (Sw (⟨⟨m0, m1, m2, m3, m4, m5, m6, m7, m8, m9, m10, m11, m12, m13⟩, m14, m15, m16, m17, m18, m19, m20, m21, m22⟩ : Mat))] : Option (List PV)) = RR
 simp only [H5, T6, Kv, JZ, std, xOf, PXb, U5 hf hN hl hs]
 subst hres; simp only [Sw]
 cases hv : CV (⟨⟨m0, m1, m2, m3, m4, m5, m6, m7, m8, m9, m10, m11, m12, m13⟩, m14, m15, m16, m17, m18, m19, m20, m21, m22⟩ : Mat)
 case false => rfl
 have ok := Z3 hv
 simp only [PXb]
 cases h3 : m14 == 3
 case true => simp only [PXb, PXi, Kv, R0 (ok.begun h3) hl, BW, PXm]
 cases h2 : m14 == 2
 case false => rfl
 have hr := ok.room h2
 have rk := (KC ok.code).innings
 simp only at hr rk
 have hi3 : 0 ≤ (m17.length : Int) ∧ (m17.length : Int) ≤ 3 := by omega
 simp only [PXb, PXi, JZ, Zg hi3]
theorem rH {m : Mat} (ok : MatOk m) (h2 : (m.stage == 2) = true) (sd : Int) : Gi m sd = cond (IntKind.i64.wrap ((m.inns.length : Int) + 1) == IntKind.i64.wrap (2 * m.rules.innings)) (IntKind.i64.wrap (IntKind.i64.wrap (A6 m (Be sd) - A6 m sd) + 1)) 0 := by
 have hr := ok.room h2
 have hm := ok.most.1
 have hl := ok.len
 unfold Gi
 rw [hm, Fr (by omega) (by omega)]
 cases hq : ((m.inns.length : Int) + 1 == 2 * m.rules.innings) with
 | true =>
  rw [beq_iff_eq] at hq
  rw [show iLt ((m.inns.length : Int) + 1) (2 * m.rules.innings) = false by simp only [iLt, decide_eq_false_iff_not]; omega]
  rfl
 | false =>
  rw [beq_eq_false_iff_ne] at hq
  rw [show iLt ((m.inns.length : Int) + 1) (2 * m.rules.innings) = true by simp only [iLt, decide_eq_true_eq]; omega]
  rfl
set_option maxHeartbeats 4000000 in
theorem pb {N : Nat} {m1 m2 m3 m4 m5 m6 m7 m9 m10 m11 m12 m14 m15 m18 m19 m20 m21 m22 : Int} {m8 m16 : Bool} {m0 : ByteArray} {m13 : Rows} {m17 : List Inn} {e0 e1 e2 e3 e5 e6 e7 e8 e9 e10 e11 e13 e14 e15 e16 e18 : Int} {e4 e12 e17 : Bool} (hN : 2097152 < N) (hf : C8 m17) (hl : m17.length ≤ 1000000) (hs : m0.size ≤ 1048576) (h13 : m13.length ≤ 1048576) (ok : MatOk (⟨⟨m0, m1, m2, m3, m4, m5, m6, m7, m8, m9, m10, m11, m12, m13⟩, m14, m15, m16, m17, m18, m19, m20, m21, m22⟩ : Mat)) (hv : CV (⟨⟨m0, m1, m2, m3, m4, m5, m6, m7, m8, m9, m10, m11, m12, m13⟩, m14, m15, m16, m17, m18, m19, m20, m21, m22⟩ : Mat) = true) (hs2 : (m14 == 2) = true) : Nb N [.str m0, .int m1, .int m2, .int m3, .int m4, .int m5, .int m6, .int m7, .bool m8, .int m9, .int m10, .int m11, .int m12, .rows m13, .int m14, .int m15, .bool m16, .rows (AQ m17), .int m18, .int m19, .int m20, .int m21, .int m22, .int e0, .int e1, .int e2, .int e3, .bool e4, .int e5, .int e6, .int e7, .int e8, .int e9, .int e10, .int e11, .bool e12, .int e13, .int e14, .int e15, .int e16, .bool e17, .int e18] = some (GH (Xb (⟨⟨m0, m1, m2, m3, m4, m5, m6, m7, m8, m9, m10, m11, m12, m13⟩, m14, m15, m16, m17, m18, m19, m20, m21, m22⟩ : Mat) (⟨e0, e1, e2, e3, e4, e5, e6, ⟨e7, e8, e9, e10, e11, e12, e13, e14, e15, e16, e17, e18⟩⟩ : Ev))) := by
 show NU (std (Cb N) N) (xOf _) = _
 have hl2 : m17.length ≤ 1048576 := by omega
 have h304 : iSm ((m17.length + 1 : Nat) : Int) 304 = true := Ey (by omega) (by omega)
 have fb := fun a b c => (HX (⟨⟨m0, m1, m2, m3, m4, m5, m6, m7, m8, m9, m10, m11, m12, m13⟩, m14, m15, m16, m17, m18, m19, m20, m21, m22⟩ : Mat).rules a b c).1
 have wb : ∀ a b c, (Bk (⟨⟨m0, m1, m2, m3, m4, m5, m6, m7, m8, m9, m10, m11, m12, m13⟩, m14, m15, m16, m17, m18, m19, m20, m21, m22⟩ : Mat).rules a b c).1.before.length + (Bk (⟨⟨m0, m1, m2, m3, m4, m5, m6, m7, m8, m9, m10, m11, m12, m13⟩, m14, m15, m16, m17, m18, m19, m20, m21, m22⟩ : Mat).rules a b c).1.bowlers.length ≤ 1000000 := fun a b c => by
  rw [(HX (⟨⟨m0, m1, m2, m3, m4, m5, m6, m7, m8, m9, m10, m11, m12, m13⟩, m14, m15, m16, m17, m18, m19, m20, m21, m22⟩ : Mat).rules a b c).2.1, (HX (⟨⟨m0, m1, m2, m3, m4, m5, m6, m7, m8, m9, m10, m11, m12, m13⟩, m14, m15, m16, m17, m18, m19, m20, m21, m22⟩ : Mat).rules a b c).2.2]
  exact Nat.zero_le _
 have hb : Sw (⟨⟨m0, m1, m2, m3, m4, m5, m6, m7, m8, m9, m10, m11, m12, m13⟩, m14, m15, m16, m17, m18, m19, m20, m21, m22⟩ : Mat) = Dg (⟨⟨m0, m1, m2, m3, m4, m5, m6, m7, m8, m9, m10, m11, m12, m13⟩, m14, m15, m16, m17, m18, m19, m20, m21, m22⟩ : Mat) (m17.length : Int) := by
  unfold Sw
  rw [hv]
  have h3 : (m14 == 3) = false := by
   rw [beq_iff_eq] at hs2
   rw [hs2]; rfl
  simp only [PXb, h3, hs2]
 have ht := fun sd => rH ok hs2 sd
 simp only at ht
 simp only [NU, IY, HM, Ha, HY, Ve, std, xOf, PXb, kf hf hN hl hs, hb]
 rcases nV (m := (⟨⟨m0, m1, m2, m3, m4, m5, m6, m7, m8, m9, m10, m11, m12, m13⟩, m14, m15, m16, m17, m18, m19, m20, m21, m22⟩ : Mat)) (ok.toss hs2) (m17.length : Int) with ho | ho
 ·simp only [PXb, PXc, ho, wr1, wr2, VG, VW, CM, So, Nat.reduceAdd, Int.reduceBEq, Xb, ht, PXi, Ha, HY, F4, Kw hN hl2]
  generalize hT : cond (IntKind.i64.wrap ((m17.length : Int) + 1) == IntKind.i64.wrap (2 * m2)) (IntKind.i64.wrap (IntKind.i64.wrap (A6 (⟨⟨m0, m1, m2, m3, m4, m5, m6, m7, m8, m9, m10, m11, m12, m13⟩, m14, m15, m16, m17, m18, m19, m20, m21, m22⟩ : Mat) (Be 1) - A6 (⟨⟨m0, m1, m2, m3, m4, m5, m6, m7, m8, m9, m10, m11, m12, m13⟩, m14, m15, m16, m17, m18, m19, m20, m21, m22⟩ : Mat) 1) + 1)) 0 = T
  refine bind_ok (r := [.int T]) (by subst hT; cases IntKind.i64.wrap ((m17.length : Int) + 1) == IntKind.i64.wrap (2 * m2) <;> rfl) ?_
  simp only [PXb, PXc, PXi, PXr, Inn.eta, AX, List.length_append, List.length_cons, List.length_nil, h304, CM, So, Nat.reduceAdd, Int.reduceBEq, HM, IY, cm hN hs, XS (fb _ _ _) (wb _ _ _) hN hs h13]
  cases (Bk (⟨⟨m0, m1, m2, m3, m4, m5, m6, m7, m8, m9, m10, m11, m12, m13⟩, m14, m15, m16, m17, m18, m19, m20, m21, m22⟩ : Mat).rules 1 T m18).2 == 0 <;> try rfl
  cases (Cf (⟨⟨m0, m1, m2, m3, m4, m5, m6, m7, m8, m9, m10, m11, m12, m13⟩, m14, m15, m16, m17, m18, m19, m20, m21, m22⟩ : Mat).rules (Bk (⟨⟨m0, m1, m2, m3, m4, m5, m6, m7, m8, m9, m10, m11, m12, m13⟩, m14, m15, m16, m17, m18, m19, m20, m21, m22⟩ : Mat).rules 1 T m18).1 (⟨e0, e1, e2, e3, e4, e5, e6, ⟨e7, e8, e9, e10, e11, e12, e13, e14, e15, e16, e17, e18⟩⟩ : Ev)).2 == 0 <;> rfl
 ·simp only [PXb, PXc, ho, wr1, wr2, VG, VW, CM, So, Nat.reduceAdd, Int.reduceBEq, Xb, ht, PXi, Ha, HY, F4, Kw hN hl2]
  generalize hT : cond (IntKind.i64.wrap ((m17.length : Int) + 1) == IntKind.i64.wrap (2 * m2)) (IntKind.i64.wrap (IntKind.i64.wrap (A6 (⟨⟨m0, m1, m2, m3, m4, m5, m6, m7, m8, m9, m10, m11, m12, m13⟩, m14, m15, m16, m17, m18, m19, m20, m21, m22⟩ : Mat) (Be 2) - A6 (⟨⟨m0, m1, m2, m3, m4, m5, m6, m7, m8, m9, m10, m11, m12, m13⟩, m14, m15, m16, m17, m18, m19, m20, m21, m22⟩ : Mat) 2) + 1)) 0 = T
  refine bind_ok (r := [.int T]) (by subst hT; cases IntKind.i64.wrap ((m17.length : Int) + 1) == IntKind.i64.wrap (2 * m2) <;> rfl) ?_
  simp only [PXb, PXc, PXi, PXr, Inn.eta, AX, List.length_append, List.length_cons, List.length_nil, h304, CM, So, Nat.reduceAdd, Int.reduceBEq, HM, IY, cm hN hs, XS (fb _ _ _) (wb _ _ _) hN hs h13]
  cases (Bk (⟨⟨m0, m1, m2, m3, m4, m5, m6, m7, m8, m9, m10, m11, m12, m13⟩, m14, m15, m16, m17, m18, m19, m20, m21, m22⟩ : Mat).rules 2 T m19).2 == 0 <;> try rfl
  cases (Cf (⟨⟨m0, m1, m2, m3, m4, m5, m6, m7, m8, m9, m10, m11, m12, m13⟩, m14, m15, m16, m17, m18, m19, m20, m21, m22⟩ : Mat).rules (Bk (⟨⟨m0, m1, m2, m3, m4, m5, m6, m7, m8, m9, m10, m11, m12, m13⟩, m14, m15, m16, m17, m18, m19, m20, m21, m22⟩ : Mat).rules 2 T m19).1 (⟨e0, e1, e2, e3, e4, e5, e6, ⟨e7, e8, e9, e10, e11, e12, e13, e14, e15, e16, e17, e18⟩⟩ : Ev)).2 == 0 <;> rfl
end Go.Px
end
section
namespace Go.Px
set_option maxRecDepth 100000
set_option maxHeartbeats 8000000 in
theorem qC {N : Nat} {m1 m2 m3 m4 m5 m6 m7 m9 m10 m11 m12 m14 m15 m18 m19 m20 m21 m22 : Int} {m8 m16 : Bool} {m0 : ByteArray} {m13 : Rows} {m17 : List Inn} {e0 e1 e2 e3 e5 e6 e7 e8 e9 e10 e11 e13 e14 e15 e16 e18 : Int} {e4 e12 e17 : Bool} (hN : 2097152 < N) (hf : C8 m17) (hl : m17.length ≤ 1000000) (hs : m0.size ≤ 1048576) (h13 : m13.length ≤ 1048576) (ok : MatOk (⟨⟨m0, m1, m2, m3, m4, m5, m6, m7, m8, m9, m10, m11, m12, m13⟩, m14, m15, m16, m17, m18, m19, m20, m21, m22⟩ : Mat)) (he : (evS (⟨e0, e1, e2, e3, e4, e5, e6, ⟨e7, e8, e9, e10, e11, e12, e13, e14, e15, e16, e17, e18⟩⟩ : Ev) == 0) = true) (h3 : (m14 == 3) = true) : NP N [.str m0, .int m1, .int m2, .int m3, .int m4, .int m5, .int m6, .int m7, .bool m8, .int m9, .int m10, .int m11, .int m12, .rows m13, .int m14, .int m15, .bool m16, .rows (AQ m17), .int m18, .int m19, .int m20, .int m21, .int m22, .int e0, .int e1, .int e2, .int e3, .bool e4, .int e5, .int e6, .int e7, .int e8, .int e9, .int e10, .int e11, .bool e12, .int e13, .int e14, .int e15, .int e16, .bool e17, .int e18] = some (GH (bZ (⟨⟨m0, m1, m2, m3, m4, m5, m6, m7, m8, m9, m10, m11, m12, m13⟩, m14, m15, m16, m17, m18, m19, m20, m21, m22⟩ : Mat) (⟨e0, e1, e2, e3, e4, e5, e6, ⟨e7, e8, e9, e10, e11, e12, e13, e14, e15, e16, e17, e18⟩⟩ : Ev))) := by
 show Mi (std (Ep N) N) (xOf _) = _
 simp only [Mi, Oa, Ki, std, xOf, PXb]
 have h0 := ok.begun h3
 have lv := R3 (ok.innv (lnx m17) (fx h0 hl)).1
 have fl : (inn m17 (IntKind.i64.wrap ((m17.length : Int) - 1)).toNat).Fit := lv.2.2
 have wl : (inn m17 (IntKind.i64.wrap ((m17.length : Int) - 1)).toNat).before.length + (inn m17 (IntKind.i64.wrap ((m17.length : Int) - 1)).toNat).bowlers.length ≤ 1000000 := by
  have h1 := lv.1
  have h2 := lv.2.1
  change (inn m17 (IntKind.i64.wrap ((m17.length : Int) - 1)).toNat).bowlers.length ≤ 11 at h1
  change (inn m17 (IntKind.i64.wrap ((m17.length : Int) - 1)).toNat).before.length ≤ 11 at h2
  omega
 have f1 := Ka (Uq (⟨⟨m0, m1, m2, m3, m4, m5, m6, m7, m8, m9, m10, m11, m12, m13⟩, m14, m15, m16, m17, m18, m19, m20, m21, m22⟩ : Mat).rules (inn m17 (IntKind.i64.wrap ((m17.length : Int) - 1)).toNat) (⟨e0, e1, e2, e3, e4, e5, e6, ⟨e7, e8, e9, e10, e11, e12, e13, e14, e15, e16, e17, e18⟩⟩ : Ev)) fl (by omega)
 simp only [PXb, PXc, PXi, PXr, AX, Inn.eta, CM, Nat.reduceAdd, List.length_set, L9 h0 hl, Oa, XS fl wl hN hs h13, bZ, BW, lnx]
 generalize hX : Cf (⟨⟨m0, m1, m2, m3, m4, m5, m6, m7, m8, m9, m10, m11, m12, m13⟩, m14, m15, m16, m17, m18, m19, m20, m21, m22⟩ : Mat).rules (inn m17 (IntKind.i64.wrap ((m17.length : Int) - 1)).toNat) (⟨e0, e1, e2, e3, e4, e5, e6, ⟨e7, e8, e9, e10, e11, e12, e13, e14, e15, e16, e17, e18⟩⟩ : Ev) = X at f1
 have fy := Sl (IntKind.i64.wrap ((m17.length : Int) - 1)).toNat hf f1
 generalize hy : m17.set (IntKind.i64.wrap ((m17.length : Int) - 1)).toNat X.1 = ys at fy
 have ly : ys.length = m17.length := by rw [← hy, List.length_set]
 cases X.2 == 0 <;> try rfl
 cases h13k : e0 == 13
 case false => rfl
 cases hsd : e1 == X.1.side
 case true => rfl
 simp only [PXb, Option.bind_assoc]
 have e0w : IntKind.i64.wrap ((m17.length : Int) - 1) = (m17.length : Int) - 1 - ((0 : Nat) : Int) := by
  rw [beq_eq_false_iff_ne] at h0
  rw [Fr (by omega) (by omega)]; omega
 rw [e0w]
 have hside := jQ (e := (⟨e0, e1, e2, e3, e4, e5, e6, ⟨e7, e8, e9, e10, e11, e12, e13, e14, e15, e16, e17, e18⟩⟩ : Ev)) he h13k
 simp only at hside
 refine AJ (Xo (len := m17.length) (fun j => [.int ((m17.length : Int) - 1 - (j : Int))]) (fun j => cond ((inn ys (m17.length - 1 - j)).side == e1) (some [PV.int 0, PV.str m0, PV.int m1, PV.int m2, PV.int m3, PV.int m4, PV.int m5, PV.int m6, PV.int m7, PV.bool m8, PV.int m9, PV.int m10, PV.int m11, PV.int m12, PV.rows m13, PV.int m14, PV.int m15, PV.bool m16, PV.rows (AQ (ys.set (m17.length - 1 - j) (N1 (inn ys (m17.length - 1 - j))))), PV.int m18, PV.int m19, PV.int m20, PV.int m21, PV.int m22]) none) ?_ ?_ m17.length 0 N (by omega) (by omega)) ?_
 ·intro self
  have q1 : iLe 0 ((m17.length : Int) - 1 - (m17.length : Int)) = false := by simp only [iLe, decide_eq_false_iff_not]; omega
  simp only [PXb, q1]
 ·intro i self hi
  have q1 : iLe 0 ((m17.length : Int) - 1 - (i : Int)) = true := by simp only [iLe, decide_eq_true_eq]; omega
  have q2 : iIn ((m17.length : Int) - 1 - (i : Int)) (m17.length : Int) = true := by simp only [iIn, decide_eq_true_eq]; omega
  have q3 : ((m17.length : Int) - 1 - (i : Int)).toNat = m17.length - 1 - i := by omega
  have q4 : IntKind.i64.wrap ((m17.length : Int) - 1 - (i : Int) - 1) = (m17.length : Int) - 1 - ((i + 1 : Nat) : Int) := by rw [Fr (by omega) (by omega)]; omega
  have q5 := fy (m17.length - 1 - i) (by omega)
  simp only [PXb, PXc, q1, q2, q3, q4, Ki, YR q5, PXm]
  cases (inn ys (m17.length - 1 - i)).side == e1 <;> rfl
 ·have hfa := jC ys e1 (fun k => [PV.int 0, PV.str m0, PV.int m1, PV.int m2, PV.int m3, PV.int m4, PV.int m5, PV.int m6, PV.int m7, PV.bool m8, PV.int m9, PV.int m10, PV.int m11, PV.int m12, PV.rows m13, PV.int m14, PV.int m15, PV.bool m16, PV.rows (AQ (ys.set k (N1 (inn ys k)))), PV.int m18, PV.int m19, PV.int m20, PV.int m21, PV.int m22]) m17.length m17.length (Nat.le_refl _)
  rw [Nat.sub_self] at hfa
  rw [hfa]
  unfold K0
  simp only [ly]
  cases Re ys e1 m17.length with
  | some k => rfl
  | none =>
   rcases hside with h | h <;> subst h
   ·simp only [Option.map_none, R6, PXb, PXc, CM, Int.reduceBEq, wr1, VG]
    rfl
   ·simp only [Option.map_none, R6, PXb, PXc, CM, Int.reduceBEq, wr2, VW]
    rfl
set_option maxHeartbeats 4000000 in
theorem rh {N : Nat} {m1 m2 m3 m4 m5 m6 m7 m9 m10 m11 m12 m14 m15 m18 m19 m20 m21 m22 : Int} {m8 m16 : Bool} {m0 : ByteArray} {m13 : Rows} {m17 : List Inn} {e0 e1 e2 e3 e5 e6 e7 e8 e9 e10 e11 e13 e14 e15 e16 e18 : Int} {e4 e12 e17 : Bool} (hN : 2097152 < N) (hf : C8 m17) (hl : m17.length ≤ 1000000) (hs : m0.size ≤ 1048576) (h13 : m13.length ≤ 1048576) (ok : MatOk (⟨⟨m0, m1, m2, m3, m4, m5, m6, m7, m8, m9, m10, m11, m12, m13⟩, m14, m15, m16, m17, m18, m19, m20, m21, m22⟩ : Mat)) (hv : CV (⟨⟨m0, m1, m2, m3, m4, m5, m6, m7, m8, m9, m10, m11, m12, m13⟩, m14, m15, m16, m17, m18, m19, m20, m21, m22⟩ : Mat) = true) (he : (evS (⟨e0, e1, e2, e3, e4, e5, e6, ⟨e7, e8, e9, e10, e11, e12, e13, e14, e15, e16, e17, e18⟩⟩ : Ev) == 0) = true) : QG N [.str m0, .int m1, .int m2, .int m3, .int m4, .int m5, .int m6, .int m7, .bool m8, .int m9, .int m10, .int m11, .int m12, .rows m13, .int m14, .int m15, .bool m16, .rows (AQ m17), .int m18, .int m19, .int m20, .int m21, .int m22, .int e0, .int e1, .int e2, .int e3, .bool e4, .int e5, .int e6, .int e7, .int e8, .int e9, .int e10, .int e11, .bool e12, .int e13, .int e14, .int e15, .int e16, .bool e17, .int e18] = some (GH (HR (⟨⟨m0, m1, m2, m3, m4, m5, m6, m7, m8, m9, m10, m11, m12, m13⟩, m14, m15, m16, m17, m18, m19, m20, m21, m22⟩ : Mat) (⟨e0, e1, e2, e3, e4, e5, e6, ⟨e7, e8, e9, e10, e11, e12, e13, e14, e15, e16, e17, e18⟩⟩ : Ev))) := by
 show QF (std (EN N) N) (xOf _) = _
 simp only [QF, Oc, QA, Qg, std, xOf, PXb]
 unfold HR
 cases hk1 : e0 == 1
 case true =>
  simp only [PXb, Oc, F4]
  cases m14 == 1 <;> cases e4 <;> rfl
 cases hk2 : e0 == 2
 case true =>
  simp only [PXb]
  cases hs2 : m14 == 2
  case false => rfl
  simp only [PXb, QA, pb hN hf hl hs h13 ok hv hs2]
  rfl
 cases hk3 : e0 == 12
 case true =>
  simp only [PXb]
  cases m14 == 4 <;> cases e1 == m15 <;> rfl
 cases hk4 : e0 == 16
 case true =>
  simp only [PXb, kr, WN]
  cases h3 : m14 == 3
  case false =>
   simp only [PXb, PXc, PXi, PXr, CM, Nat.reduceAdd]
   cases m3 == 0 <;> rfl
  simp only [PXb, PXc, PXi, PXr, CM, Nat.reduceAdd, L9 (ok.begun h3) hl]
  cases m3 == 0 <;> rfl
 simp only [PXb]
 cases h3 : m14 == 3
 case false => rfl
 simp only [PXb, Qg, qC hN hf hl hs h13 ok he h3]
 rfl
theorem ll {N : Nat} {m1 m2 m3 m4 m5 m6 m7 m9 m10 m11 m12 m14 m15 m18 m19 m20 m21 m22 : Int} {m8 m16 : Bool} {m0 : ByteArray} {m13 : Rows} {m17 : List Inn} (hf : C8 m17) (hN : 2097152 < N) (hl : m17.length ≤ 1000000) (hs : m0.size ≤ 1048576) (h0 : ((m17.length : Int) == 0) = false) : Jk N [.str m0, .int m1, .int m2, .int m3, .int m4, .int m5, .int m6, .int m7, .bool m8, .int m9, .int m10, .int m11, .int m12, .rows m13, .int m14, .int m15, .bool m16, .rows (AQ m17), .int m18, .int m19, .int m20, .int m21, .int m22] = some (Oo (⟨⟨m0, m1, m2, m3, m4, m5, m6, m7, m8, m9, m10, m11, m12, m13⟩, m14, m15, m16, m17, m18, m19, m20, m21, m22⟩ : Mat)).ls := by
 show Ja (std (CH N) N) (xOf _) = _
 have hl5 : m17.length ≤ 1048576 := by omega
 simp only [Ja, Wn, VM, VN, Sz, std, xOf, PXb, R0 h0 hl, F4, Kw hN hl5, j5 hf hN hl hs, PXi]
 unfold Oo
 simp only [A6, BW, lnx, PXm]
 cases hq1 : ((m17.length : Int) == IntKind.i64.wrap (2 * m2))
 case true => rfl
 cases hq2 : ((m17.length : Int) == 3)
 case true =>
  simp only [PXb]
  cases iLt (Fy m17 (inn m17 (IntKind.i64.wrap ((m17.length : Int) - 1)).toNat).side m17.length) (Fy m17 (Be (inn m17 (IntKind.i64.wrap ((m17.length : Int) - 1)).toNat).side) m17.length)
  case true => rfl
  simp only [PXb]
  cases ((m17.length : Int) == 2) <;> cases iLt 0 m10 <;> try rfl
  simp only [PXb]
  cases iLe m10 (IntKind.i64.wrap (Fy m17 m15 m17.length - Fy m17 (Be m15) m17.length)) <;> rfl
 simp only [PXb]
 cases ((m17.length : Int) == 2) <;> cases iLt 0 m10 <;> try rfl
 simp only [PXb]
 cases iLe m10 (IntKind.i64.wrap (Fy m17 m15 m17.length - Fy m17 (Be m15) m17.length)) <;> rfl
set_option maxHeartbeats 4000000 in
theorem ew {N : Nat} {m1 m2 m3 m4 m5 m6 m7 m9 m10 m11 m12 m14 m15 m18 m19 m20 m21 m22 : Int} {m8 m16 : Bool} {m0 : ByteArray} {m13 : Rows} {m17 : List Inn} {e0 e1 e2 e3 e5 e6 e7 e8 e9 e10 e11 e13 e14 e15 e16 e18 : Int} {e4 e12 e17 : Bool} (hN : 2097152 < N) (hf : C8 m17) (hl : m17.length ≤ 1000000) (hs : m0.size ≤ 1048576) (h13 : m13.length ≤ 1048576) : Hh N [.str m0, .int m1, .int m2, .int m3, .int m4, .int m5, .int m6, .int m7, .bool m8, .int m9, .int m10, .int m11, .int m12, .rows m13, .int m14, .int m15, .bool m16, .rows (AQ m17), .int m18, .int m19, .int m20, .int m21, .int m22, .int e0, .int e1, .int e2, .int e3, .bool e4, .int e5, .int e6, .int e7, .int e8, .int e9, .int e10, .int e11, .bool e12, .int e13, .int e14, .int e15, .int e16, .bool e17, .int e18] = some (GH (DC (⟨⟨m0, m1, m2, m3, m4, m5, m6, m7, m8, m9, m10, m11, m12, m13⟩, m14, m15, m16, m17, m18, m19, m20, m21, m22⟩ : Mat) (⟨e0, e1, e2, e3, e4, e5, e6, ⟨e7, e8, e9, e10, e11, e12, e13, e14, e15, e16, e17, e18⟩⟩ : Ev))) := by
 show Mx (std (B9 N) N) (xOf _) = _
 generalize hres : (some (GH (DC (⟨⟨m0, m1, m2, m3, m4, m5, m6, m7, m8, m9, m10, m11, m12, m13⟩, m14, m15, m16, m17, m18, m19, m20, m21, m22⟩ : Mat) (⟨e0, e1, e2, e3, e4, e5, e6, ⟨e7, e8, e9, e10, e11, e12, e13, e14, e15, e16, e17, e18⟩⟩ : Ev))) : Option (List PV)) = RR
 simp only [Mx, XJ, Nm, Xf, P5, Ob, MV, std, xOf, PXb, U5 hf hN hl hs, dF, dD hf hN hl h13]
 subst hres; simp only [DC]
 cases hv : CV (⟨⟨m0, m1, m2, m3, m4, m5, m6, m7, m8, m9, m10, m11, m12, m13⟩, m14, m15, m16, m17, m18, m19, m20, m21, m22⟩ : Mat)
 case false => rfl
 cases he : evS (⟨e0, e1, e2, e3, e4, e5, e6, ⟨e7, e8, e9, e10, e11, e12, e13, e14, e15, e16, e17, e18⟩⟩ : Ev) == 0
 case false => simp only [PXb, he]; rfl
 simp only [PXb, he]
 cases h5 : m14 == 5
 case true => rfl
 have ok := Z3 hv
 simp only [PXb, PXc, CM, Nat.reduceAdd, Nm, dD hf hN hl h13, P5, rh hN hf hl hs h13 ok hv he]
 have ak := mM ok (⟨e0, e1, e2, e3, e4, e5, e6, ⟨e7, e8, e9, e10, e11, e12, e13, e14, e15, e16, e17, e18⟩⟩ : Ev)
 generalize HR (⟨⟨m0, m1, m2, m3, m4, m5, m6, m7, m8, m9, m10, m11, m12, m13⟩, m14, m15, m16, m17, m18, m19, m20, m21, m22⟩ : Mat) (⟨e0, e1, e2, e3, e4, e5, e6, ⟨e7, e8, e9, e10, e11, e12, e13, e14, e15, e16, e17, e18⟩⟩ : Ev) = A at ak
 obtain ⟨⟨⟨a0, a1, a2, a3, a4, a5, a6, a7, a8, a9, a10, a11, a12, a13⟩, a14, a15, a16, a17, a18, a19, a20, a21, a22⟩, l⟩ := A
 obtain ⟨k1, k2, k3, k4⟩ := ak
 simp only at k1 k2 k3 k4
 have hl5 : a17.length ≤ 1000000 := by omega
 have hs5 : a0.size ≤ 1048576 := by
  have := congrArg Rul.name k1
  simp only at this
  rw [this]; exact hs
 simp only [PXb, PXc, PXk, PXi, CM, Nat.reduceAdd]
 cases hl0 : l == 0
 case false => rfl
 simp only [PXb, NX]
 cases h3 : a14 == 3
 case false => rfl
 have h0 := k4 hl0 h3
 simp only [PXb, PXc, PXi, Ob, R0 h0 hl5, BW, MV, ll k2 hN hl5 hs5 h0, PXm]
 cases (inn a17 (lnx a17)).ending == 0 <;> rfl
end Go.Px
end
section
namespace Go.Px
set_option maxRecDepth 100000
theorem oy (m : Mat) : (Oo m).rules = m.rules ∧ (Oo m).inns = m.inns := by
 unfold Oo
 dsimp only
 cases ((m.inns.length : Int) == IntKind.i64.wrap (2 * m.rules.innings) || ((m.inns.length : Int) == 3 && iLt (A6 m (BW m).side) (A6 m (Be (BW m).side)))) with
 | true => exact ⟨rfl, rfl⟩
 | false =>
  cases ((m.inns.length : Int) == 2 && iLt 0 m.rules.followon && iLe m.rules.followon (IntKind.i64.wrap (A6 m m.first - A6 m (Be m.first)))) <;> exact ⟨rfl, rfl⟩
theorem gG (m : Mat) : (NX m).rules = m.rules ∧ (NX m).inns = m.inns := by
 unfold NX
 cases (m.stage == 3 && !((BW m).ending == 0)) with
 | true => exact oy m
 | false => exact ⟨rfl, rfl⟩
structure StepOk (r : Rul) (m : Mat) : Prop where
 rules : m.rules = r
 fit : C8 m.inns
 len : m.inns.length ≤ 5
theorem pz {r : Rul} {m : Mat} (h : StepOk r m) (e : Ev) : StepOk r (DC m e).1 := by
 unfold DC
 cases hv : CV m with
 | false => exact h
 | true =>
  cases he : evS e == 0 with
  | false => exact h
  | true =>
   cases h5 : m.stage == 5 with
   | true => exact h
   | false =>
    have a := mM (Z3 hv) e
    cases hx : (HR m e).2 == 0 with
    | false => exact h
    | true =>
     have k := gG (HR m e).1
     exact ⟨k.1.trans (a.rules.trans h.rules), by show C8 (NX _).inns; rw [k.2]; exact a.fit, by show (NX _).inns.length ≤ 5; rw [k.2]; exact a.len⟩
theorem bS (r : Rul) (h : ((C9 r).2 == 0) = true) : StepOk r (C9 r).1 := by
 unfold C9 at h ⊢
 cases hc : BH r == 0 with
 | false => rw [hc] at h; exact absurd (show (BH r == 0) = true from h) (by rw [hc]; decide)
 | true => exact ⟨rfl, fun i hi => absurd hi (Nat.not_lt_zero i), Nat.zero_le _⟩
theorem sn {m : Mat} {e : Ev} (h : ((DC m e).2 == 0) = true) : CV m = true ∧ (evS e == 0) = true ∧ (m.stage == 5) = false ∧ ((HR m e).2 == 0) = true ∧ (DC m e).1 = NX (HR m e).1 := by
 unfold DC at h ⊢
 cases hv : CV m with
 | false => rw [hv] at h; exact absurd (show ((1 : Int) == 0) = true from h) (by decide)
 | true =>
  cases he : evS e == 0 with
  | false => rw [hv, he] at h; exact absurd (show ((1 : Int) == 0) = true from h) (by decide)
  | true =>
   cases h5 : m.stage == 5 with
   | true => rw [hv, he, h5] at h; exact absurd (show ((26 : Int) == 0) = true from h) (by decide)
   | false =>
    cases hx : (HR m e).2 == 0 with
    | false => rw [hv, he, h5, hx] at h; exact absurd (show ((HR m e).2 == 0) = true from h) (by rw [hx]; decide)
    | true => exact ⟨rfl, rfl, rfl, rfl, rfl⟩
theorem qq {m : Mat} {e : Ev} (h : ((DC m e).2 == 0) = true) (hk : (e.kind == 4) = true) : (m.stage == 3) = true ∧ ((m.inns.length : Int) == 0) = false ∧ ((Cf m.rules (BW m) e).2 == 0) = true ∧ (DC m e).1.inns = m.inns.set (lnx m.inns) (Cf m.rules (BW m) e).1 := by
 obtain ⟨hv, he, h5, ha, hs⟩ := sn h
 have hk4 := beq_iff_eq.1 hk
 rw [hs, (gG _).2]
 unfold HR at ha ⊢
 simp only [hk4, Int.reduceBEq, cond_false] at ha ⊢
 cases h3 : m.stage == 3 with
 | false => rw [h3] at ha; exact absurd (show ((1 : Int) == 0) = true from ha) (by decide)
 | true =>
  rw [h3] at ha
  simp only [Bool.not_true, cond_false] at ha ⊢
  unfold bZ at ha ⊢
  cases hq : (Cf m.rules (BW m) e).2 == 0 with
  | false => simp only [hq, Bool.not_false, cond_true] at ha; exact absurd ha Bool.false_ne_true
  | true =>
   simp only [hk4, Int.reduceBEq, Bool.false_and, hq, Bool.not_true, cond_false]
   exact ⟨trivial, (Z3 hv).begun h3, trivial, trivial⟩
theorem pm (b : ByteArray) : (b.toList == b.toList) = true := beq_self_eq_true _
theorem fL {N : Nat} {r1 r2 r3 r4 r5 r6 r7 r9 r10 r11 r12 : Int} {r8 : Bool} {r0 : ByteArray} {r13 : Rows} (hN : 2097152 < N) (h13 : r13.length ≤ 1048576) : OD N [.str r0, .int r1, .int r2, .int r3, .int r4, .int r5, .int r6, .int r7, .bool r8, .int r9, .int r10, .int r11, .int r12, .rows r13, .str r0, .int r1, .int r2, .int r3, .int r4, .int r5, .int r6, .int r7, .bool r8, .int r9, .int r10, .int r11, .int r12, .rows r13] = some [.bool true] := by
 show Rt (std (Z9 N) N) (xOf _) = _
 simp only [Rt, std, xOf, PXb, PXm]
 refine AJ (C0 (len := r13.length) (fun i => [.int (i : Int)]) [.int 1] ?_ ?_ N (by omega)) ?_
 ·intro self
  simp only [PXb, PXc, PXn, AB, Aj]
 ·intro i self hi
  simp only [PXb, PXc, PXn, PXm, Nat.reduceAdd, Int.reduceBEq, AO (show i ≤ 1099511627776 by omega), Ae hi, AP hi]
  rfl
 ·simp only [PXb, PXc, PXn, PXm, Nat.reduceAdd, Int.reduceBEq, pm]
theorem gC {N : Nat} {m1 m2 m3 m4 m5 m6 m7 m9 m10 m11 m12 m14 m15 m18 m19 m20 m21 m22 : Int} {m8 m16 : Bool} {m0 : ByteArray} {m13 : Rows} {m17 : List Inn} (hN : 2097152 < N) (hf : C8 m17) (hl : m17.length ≤ 1000000) (h13 : m13.length ≤ 1048576) : SC N [.str m0, .int m1, .int m2, .int m3, .int m4, .int m5, .int m6, .int m7, .bool m8, .int m9, .int m10, .int m11, .int m12, .rows m13, .int m14, .int m15, .bool m16, .rows (AQ m17), .int m18, .int m19, .int m20, .int m21, .int m22, .str m0, .int m1, .int m2, .int m3, .int m4, .int m5, .int m6, .int m7, .bool m8, .int m9, .int m10, .int m11, .int m12, .rows m13, .int m14, .int m15, .bool m16, .rows (AQ m17), .int m18, .int m19, .int m20, .int m21, .int m22] = some [.bool true] := by
 show Rm (std (NK N) N) (xOf _) = _
 simp only [Rm, Of, ZB, std, xOf, PXb, PXm, fL hN h13, PXi]
 refine AJ (C0 (len := m17.length) (fun i => [.int (i : Int)]) [.int 1] ?_ ?_ N (by omega)) ?_
 ·intro self
  simp only [PXb, PXc, PXn, AB, Aj]
 ·intro i self hi
  simp only [PXb, PXc, PXn, PXm, Nat.reduceAdd, Int.reduceBEq, AO (show i ≤ 1099511627776 by omega), Ae hi, AP hi, PXi, Of, pu (hf i hi) hN, qz]
  rfl
 ·simp only [PXb, PXc, PXn, PXm, Nat.reduceAdd, Int.reduceBEq]
end Go.Px
end
section
namespace Go.Px
set_option maxRecDepth 100000
def evR (L : Rows) (i : Nat) : Ev := ⟨atI L i 0, atI L i 1, atI L i 2, atI L i 3, atB L i 4, atI L i 5, atI L i 6, ⟨atI L i 7, atI L i 8, atI L i 9, atI L i 10, atI L i 11, atB L i 12, atI L i 13, atI L i 14, atI L i 15, atI L i 16, atB L i 17, atI L i 18⟩⟩
theorem ph (L : Rows) (i : Nat) : (⟨atI L i 0, atI L i 1, atI L i 2, atI L i 3, atB L i 4, atI L i 5, atI L i 6, ⟨atI L i 7, atI L i 8, atI L i 9, atI L i 10, atI L i 11, atB L i 12, atI L i 13, atI L i 14, atI L i 15, atI L i 16, atB L i 17, atI L i 18⟩⟩ : Ev) = evR L i := rfl
def Am (i : Int) (m : Mat) (e : Ev) : Mat × Int := cond (iLe 4000 i) (m, 26) (DC m e)
def Co (L : Rows) : Nat → Nat → Mat → Mat × Int × Int
 | 0, _, m => (m, -1, 0)
 | k + 1, i, m => cond (!((Am i m (evR L i)).2 == 0)) (m, (i : Int), (Am i m (evR L i)).2) (Co L k (i + 1) (Am i m (evR L i)).1)
def QB (i : Int) (m t : Mat) (d : Del) : List PV :=
 [.int i, .int (IntKind.i64.wrap ((m.inns.length : Int) - 1)), .int (BW m).complete, .int (BW m).inover, .int (BW m).bowler, .int (BW m).striker, .int (BW m).other, .bool (BW m).freehit,
  .int d.type, .int d.source, .int d.runs, .int d.short, .int d.boundary, .bool d.crossed, .int d.how, .int d.victim, .int d.fielder, .int d.second, .bool d.sub, .int d.sector,
  .int (BB m.rules d).batter, .int (BB m.rules d).wides, .int (BB m.rules d).noballs, .int (BB m.rules d).byes, .int (BB m.rules d).legbyes, .int (BB m.rules d).bowler, .bool (BB m.rules d).counts, .bool (BB m.rules d).faced, .bool (BB m.rules d).wicket, .bool (BB m.rules d).swap,
  .int (inn t.inns (lnx m.inns)).runs, .int (inn t.inns (lnx m.inns)).wickets]
def OE (L : Rows) : Nat → Nat → Mat → Rows → Rows
 | 0, _, _, out => out
 | k + 1, i, m, out => cond (!((Am i m (evR L i)).2 == 0)) out (OE L k (i + 1) (Am i m (evR L i)).1 (cond ((evR L i).kind == 4) (out ++ [QB i m (Am i m (evR L i)).1 (evR L i).ball]) out))
def bh (f : Mat × Int × Int) : List PV := [.str f.1.rules.name, .int f.1.rules.side, .int f.1.rules.innings, .int f.1.rules.overs, .int f.1.rules.balls, .int f.1.rules.quota, .int f.1.rules.wide, .int f.1.rules.noball, .bool f.1.rules.freehit, .int f.1.rules.newball, .int f.1.rules.followon, .int f.1.rules.reviews, .int f.1.rules.outside, .rows f.1.rules.power, .int f.1.stage, .int f.1.first, .bool f.1.follow, .rows (AQ f.1.inns), .int f.1.pen1, .int f.1.pen2, .int f.1.win, .int f.1.wside, .int f.1.margin, .int f.2.1, .int f.2.2]
def CG (r : Rul) (L : Rows) : Mat × Int × Int := cond (!((C9 r).2 == 0)) (lD, 0, 1) (Co L L.length 0 (C9 r).1)
def BN (r : Rul) (L : Rows) : Rows := cond (!((C9 r).2 == 0)) [] (OE L L.length 0 (C9 r).1 [])
theorem ej (L : Rows) : ∀ k i m, ((Co L k i m).2.1 == -1) = true → (Co L k i m).2.2 = 0
 | 0, _, _, _ => rfl
 | k + 1, i, m, h => by
  unfold Co at h ⊢
  cases hq : (Am i m (evR L i)).2 == 0 with
  | false =>
   rw [hq] at h
   have := beq_iff_eq.1 (show ((i : Int) == -1) = true from h)
   omega
  | true => rw [hq] at h; exact ej L k (i + 1) _ h
theorem mT (L : Rows) : ∀ k i m out, (OE L k i m out).length ≤ out.length + k
 | 0, _, _, out => Nat.le_refl _
 | k + 1, i, m, out => by
  unfold OE
  cases (Am i m (evR L i)).2 == 0 with
  | false => show out.length ≤ _; omega
  | true =>
   have := mT L k (i + 1) (Am i m (evR L i)).1 (cond ((evR L i).kind == 4) (out ++ [QB i m (Am i m (evR L i)).1 (evR L i).ball]) out)
   refine Nat.le_trans this ?_
   cases (evR L i).kind == 4 with
   | false => show out.length + k ≤ _; omega
   | true => show (out ++ [_]).length + k ≤ _; rw [List.length_append]; simp; omega
theorem W5 {r : Rul} {m : Mat} (h : StepOk r m) (i : Int) (e : Ev) : StepOk r (Am i m e).1 := by
 unfold Am
 cases iLe 4000 i with
 | true => exact h
 | false => exact pz h e
theorem nF {m : Mat} {i : Int} {e : Ev} (h : ((Am i m e).2 == 0) = true) : Am i m e = DC m e ∧ iLe 4000 i = false := by
 unfold Am at h ⊢
 cases h4 : iLe 4000 i with
 | true => rw [h4] at h; exact absurd (show ((26 : Int) == 0) = true from h) (by decide)
 | false => exact ⟨rfl, rfl⟩
theorem qk {N : Nat} {m1 m2 m3 m4 m5 m6 m7 m9 m10 m11 m12 m14 m15 m18 m19 m20 m21 m22 : Int} {m8 m16 : Bool} {m0 : ByteArray} {m13 : Rows} {m17 : List Inn} {i : Int} {e0 e1 e2 e3 e5 e6 e7 e8 e9 e10 e11 e13 e14 e15 e16 e18 : Int} {e4 e12 e17 : Bool} (hN : 2097152 < N) (hf : C8 m17) (hl : m17.length ≤ 1000000) (hs : m0.size ≤ 1048576) (h13 : m13.length ≤ 1048576) : NV N [.str m0, .int m1, .int m2, .int m3, .int m4, .int m5, .int m6, .int m7, .bool m8, .int m9, .int m10, .int m11, .int m12, .rows m13, .int m14, .int m15, .bool m16, .rows (AQ m17), .int m18, .int m19, .int m20, .int m21, .int m22, .int i, .int e0, .int e1, .int e2, .int e3, .bool e4, .int e5, .int e6, .int e7, .int e8, .int e9, .int e10, .int e11, .bool e12, .int e13, .int e14, .int e15, .int e16, .bool e17, .int e18] = some (GH (Am i (⟨⟨m0, m1, m2, m3, m4, m5, m6, m7, m8, m9, m10, m11, m12, m13⟩, m14, m15, m16, m17, m18, m19, m20, m21, m22⟩ : Mat) (⟨e0, e1, e2, e3, e4, e5, e6, ⟨e7, e8, e9, e10, e11, e12, e13, e14, e15, e16, e17, e18⟩⟩ : Ev))) := by
 show M6 (std (G3 N) N) (xOf _) = _
 generalize hres : (some (GH (Am i (⟨⟨m0, m1, m2, m3, m4, m5, m6, m7, m8, m9, m10, m11, m12, m13⟩, m14, m15, m16, m17, m18, m19, m20, m21, m22⟩ : Mat) (⟨e0, e1, e2, e3, e4, e5, e6, ⟨e7, e8, e9, e10, e11, e12, e13, e14, e15, e16, e17, e18⟩⟩ : Ev))) : Option (List PV)) = RR
 simp only [M6, Wo, std, xOf, PXb, me hN hf hl hs h13]
 subst hres; simp only [Am]
 cases iLe 4000 i <;> rfl
theorem gY {N : Nat} {i : Int} {m1 m2 m3 m4 m5 m6 m7 m9 m10 m11 m12 m14 m15 m18 m19 m20 m21 m22 : Int} {m8 m16 : Bool} {m0 : ByteArray} {m13 : Rows} {m17 : List Inn} {t1 t2 t3 t4 t5 t6 t7 t9 t10 t11 t12 t14 t15 t18 t19 t20 t21 t22 : Int} {t8 t16 : Bool} {t0 : ByteArray} {t13 : Rows} {t17 : List Inn} {d0 d1 d2 d3 d4 d6 d7 d8 d9 d11 : Int} {d5 d10 : Bool} (h1 : iIn (IntKind.i64.wrap ((m17.length : Int) - 1)) (m17.length : Int) = true) (h2 : iIn (IntKind.i64.wrap ((m17.length : Int) - 1)) (t17.length : Int) = true) : Iz N [.int i, .str m0, .int m1, .int m2, .int m3, .int m4, .int m5, .int m6, .int m7, .bool m8, .int m9, .int m10, .int m11, .int m12, .rows m13, .int m14, .int m15, .bool m16, .rows (AQ m17), .int m18, .int m19, .int m20, .int m21, .int m22, .str t0, .int t1, .int t2, .int t3, .int t4, .int t5, .int t6, .int t7, .bool t8, .int t9, .int t10, .int t11, .int t12, .rows t13, .int t14, .int t15, .bool t16, .rows (AQ t17), .int t18, .int t19, .int t20, .int t21, .int t22, .int d0, .int d1, .int d2, .int d3, .int d4, .bool d5, .int d6, .int d7, .int d8, .int d9, .bool d10, .int d11] = some (QB i (⟨⟨m0, m1, m2, m3, m4, m5, m6, m7, m8, m9, m10, m11, m12, m13⟩, m14, m15, m16, m17, m18, m19, m20, m21, m22⟩ : Mat) (⟨⟨t0, t1, t2, t3, t4, t5, t6, t7, t8, t9, t10, t11, t12, t13⟩, t14, t15, t16, t17, t18, t19, t20, t21, t22⟩ : Mat) (⟨d0, d1, d2, d3, d4, d5, d6, d7, d8, d9, d10, d11⟩ : Del)) := by
 show Iv (std (KW N) N) (xOf _) = _
 simp only [Iv, Mb, std, xOf, PXb, PXi, h1, h2, RF]
 rfl
def Sq (L : Rows) (i : Nat) (m : Mat) : List PV ⊕ Mat := cond (!((Am i m (evR L i)).2 == 0)) (.inl (.int 0 :: .int i :: .int (Am i m (evR L i)).2 :: m.ls)) (.inr (Am i m (evR L i)).1)
def pT (f : Mat × Int × Int) : List PV := cond (f.2.1 == -1) (.int 1 :: f.1.ls) (.int 0 :: .int f.2.1 :: .int f.2.2 :: f.1.ls)
theorem jR (L : Rows) : ∀ k i m, R7 (Sq L) (fun m => .int 1 :: m.ls) k i m = pT (Co L k i m)
 | 0, _, _ => rfl
 | k + 1, i, m => by
  simp only [R7, Sq, Co]
  cases (Am i m (evR L i)).2 == 0 with
  | false =>
   simp only [Bool.not_false, cond_true, pT]
   rw [show ((i : Int) == -1) = false from beq_false_of_ne (show (i : Int) ≠ -1 by omega)]
   rfl
  | true => exact jR L k (i + 1) _
set_option maxHeartbeats 4000000 in
theorem qA {N : Nat} {m1 m2 m3 m4 m5 m6 m7 m9 m10 m11 m12 m14 m15 m18 m19 m20 m21 m22 : Int} {m8 m16 : Bool} {m0 : ByteArray} {m13 : Rows} {m17 : List Inn} {L : Rows} (hN : 2097152 < N) (hf : C8 m17) (hl : m17.length ≤ 5) (hs : m0.size ≤ 1048576) (h13 : m13.length ≤ 1048576) (hL : L.length ≤ 1048576) : Nf N [.str m0, .int m1, .int m2, .int m3, .int m4, .int m5, .int m6, .int m7, .bool m8, .int m9, .int m10, .int m11, .int m12, .rows m13, .int m14, .int m15, .bool m16, .rows (AQ m17), .int m18, .int m19, .int m20, .int m21, .int m22, .rows L] = some (bh (Co L L.length 0 (⟨⟨m0, m1, m2, m3, m4, m5, m6, m7, m8, m9, m10, m11, m12, m13⟩, m14, m15, m16, m17, m18, m19, m20, m21, m22⟩ : Mat))) := by
  show Nj (std (Gk N) N) (xOf _) = _
  generalize hres : (some (bh (Co L L.length 0 (⟨⟨m0, m1, m2, m3, m4, m5, m6, m7, m8, m9, m10, m11, m12, m13⟩, m14, m15, m16, m17, m18, m19, m20, m21, m22⟩ : Mat))) : Option (List PV)) = RR
  simp only [Nj, OZ, std, xOf, PXb]
  subst hres
  refine AJ (MB (St := Mat) (len := L.length) (enc := fun i m => [.int (i : Int), .str m.rules.name, .int m.rules.side, .int m.rules.innings, .int m.rules.overs, .int m.rules.balls, .int m.rules.quota, .int m.rules.wide, .int m.rules.noball, .bool m.rules.freehit, .int m.rules.newball, .int m.rules.followon, .int m.rules.reviews, .int m.rules.outside, .rows m.rules.power, .int m.stage, .int m.first, .bool m.follow, .rows (AQ m.inns), .int m.pen1, .int m.pen2, .int m.win, .int m.wside, .int m.margin])
    (body := Sq L) (fin := fun m => .int 1 :: m.ls) (fun _ m => StepOk (⟨m0, m1, m2, m3, m4, m5, m6, m7, m8, m9, m10, m11, m12, m13⟩ : Rul) m) ?_ ?_ L.length 0 (⟨⟨m0, m1, m2, m3, m4, m5, m6, m7, m8, m9, m10, m11, m12, m13⟩, m14, m15, m16, m17, m18, m19, m20, m21, m22⟩ : Mat) N (by omega) (by omega) ⟨rfl, hf, hl⟩) ?_
  · intro m self _
    simp only [PXb, PXc, PXn, AB, Aj]
    rfl
  · intro i m self hi ok
    obtain ⟨⟨a0, a1, a2, a3, a4, a5, a6, a7, a8, a9, a10, a11, a12, a13⟩, a14, a15, a16, a17, a18, a19, a20, a21, a22⟩ := m
    have o1 := ok.rules
    have o2 := ok.fit
    have o3 := ok.len
    simp only at o1 o2 o3
    cases o1
    have kp := W5 ok (i : Int) (evR L i)
    refine ⟨?_, ?_⟩
    · simp only [PXb, PXc, PXn, AB, AO (show i ≤ 1099511627776 by omega), Ae hi, AP hi, OZ, ew hN o2 (show a17.length ≤ 1000000 by omega) hs h13, A2, SN, Nat.reduceAdd, PXk, PXc, ph]
      unfold Sq Am
      cases iLe 4000 (i : Int)
      case true => rfl
      simp only [cond_false]
      cases (DC (⟨⟨m0, m1, m2, m3, m4, m5, m6, m7, m8, m9, m10, m11, m12, m13⟩, a14, a15, a16, a17, a18, a19, a20, a21, a22⟩ : Mat) (evR L i)).2 == 0 <;> rfl
    · intro s' h
      unfold Sq at h
      cases hq : (Am (i : Int) (⟨⟨m0, m1, m2, m3, m4, m5, m6, m7, m8, m9, m10, m11, m12, m13⟩, a14, a15, a16, a17, a18, a19, a20, a21, a22⟩ : Mat) (evR L i)).2 == 0 with
      | false => rw [hq] at h; cases h
      | true => rw [hq] at h; cases h; exact kp
  · rw [jR]
    have he := ej L L.length 0 (⟨⟨m0, m1, m2, m3, m4, m5, m6, m7, m8, m9, m10, m11, m12, m13⟩, m14, m15, m16, m17, m18, m19, m20, m21, m22⟩ : Mat)
    generalize Co L L.length 0 (⟨⟨m0, m1, m2, m3, m4, m5, m6, m7, m8, m9, m10, m11, m12, m13⟩, m14, m15, m16, m17, m18, m19, m20, m21, m22⟩ : Mat) = f at he
    obtain ⟨⟨⟨a0, a1, a2, a3, a4, a5, a6, a7, a8, a9, a10, a11, a12, a13⟩, a14, a15, a16, a17, a18, a19, a20, a21, a22⟩, b, l⟩ := f
    simp only at he
    unfold pT
    cases hb : b == -1 with
    | false => rfl
    | true =>
      rw [he hb, beq_iff_eq.1 hb]
      rfl
end Go.Px
end
section
namespace Go.Px
set_option maxRecDepth 100000
def SV (L : Rows) (i : Nat) (s : Rows × Mat) : List PV ⊕ Rows × Mat := cond (!((Am i s.2 (evR L i)).2 == 0)) (.inl (.int 0 :: .rows s.1 :: .int i :: .int (Am i s.2 (evR L i)).2 :: s.2.ls)) (.inr (cond ((evR L i).kind == 4) (s.1 ++ [QB i s.2 (Am i s.2 (evR L i)).1 (evR L i).ball]) s.1, (Am i s.2 (evR L i)).1))
def qh (out : Rows) (f : Mat × Int × Int) : List PV := cond (f.2.1 == -1) (.int 1 :: .rows out :: f.1.ls) (.int 0 :: .rows out :: .int f.2.1 :: .int f.2.2 :: f.1.ls)
theorem jw (L : Rows) : ∀ k i s, R7 (SV L) (fun s => .int 1 :: .rows s.1 :: s.2.ls) k i s = qh (OE L k i s.2 s.1) (Co L k i s.2)
 | 0, _, _ => rfl
 | k + 1, i, s => by
  simp only [R7, SV, Co, OE]
  cases (Am i s.2 (evR L i)).2 == 0 with
  | false =>
   simp only [Bool.not_false, cond_true, qh]
   rw [show ((i : Int) == -1) = false from beq_false_of_ne (show (i : Int) ≠ -1 by omega)]
   rfl
  | true => exact jw L k (i + 1) _
def TN (out : Rows) (f : Mat × Int × Int) : List PV := [.rows out, .str f.1.rules.name, .int f.1.rules.side, .int f.1.rules.innings, .int f.1.rules.overs, .int f.1.rules.balls, .int f.1.rules.quota, .int f.1.rules.wide, .int f.1.rules.noball, .bool f.1.rules.freehit, .int f.1.rules.newball, .int f.1.rules.followon, .int f.1.rules.reviews, .int f.1.rules.outside, .rows f.1.rules.power, .int f.1.stage, .int f.1.first, .bool f.1.follow, .rows (AQ f.1.inns), .int f.1.pen1, .int f.1.pen2, .int f.1.win, .int f.1.wside, .int f.1.margin, .int f.2.1, .int f.2.2]
theorem ru {m t : Mat} {e : Ev} (hl : m.inns.length ≤ 5) (h : ((DC m e).2 == 0) = true) (hk : (e.kind == 4) = true) (ht : (DC m e).1 = t) : iIn (IntKind.i64.wrap ((m.inns.length : Int) - 1)) (m.inns.length : Int) = true ∧ iIn (IntKind.i64.wrap ((m.inns.length : Int) - 1)) (t.inns.length : Int) = true := by
 obtain ⟨_, h2, _, h4⟩ := qq h hk
 have := L9 h2 (show m.inns.length ≤ 1000000 by omega)
 rw [← ht, h4, List.length_set]
 exact ⟨this, this⟩
set_option maxHeartbeats 8000000 in
theorem fN {N : Nat} {r1 r2 r3 r4 r5 r6 r7 r9 r10 r11 r12 : Int} {r8 : Bool} {r0 : ByteArray} {r13 : Rows} {L : Rows} (hN : 2097152 < N) (hs : r0.size ≤ 1048576) (h13 : r13.length ≤ 1048576) (hL : L.length ≤ 1048576) : ED N [.str r0, .int r1, .int r2, .int r3, .int r4, .int r5, .int r6, .int r7, .bool r8, .int r9, .int r10, .int r11, .int r12, .rows r13, .rows L] = some (TN (BN (⟨r0, r1, r2, r3, r4, r5, r6, r7, r8, r9, r10, r11, r12, r13⟩ : Rul) L) (CG (⟨r0, r1, r2, r3, r4, r5, r6, r7, r8, r9, r10, r11, r12, r13⟩ : Rul) L)) := by
  show Nd (std (Dc N) N) (xOf _) = _
  generalize hres : (some (TN (BN (⟨r0, r1, r2, r3, r4, r5, r6, r7, r8, r9, r10, r11, r12, r13⟩ : Rul) L) (CG (⟨r0, r1, r2, r3, r4, r5, r6, r7, r8, r9, r10, r11, r12, r13⟩ : Rul) L)) : Option (List PV)) = RR
  simp only [Nd, Xi, Od, I3, std, xOf, PXb, oJ hN hs h13]
  subst hres; simp only [BN, CG]
  have nk := bS (⟨r0, r1, r2, r3, r4, r5, r6, r7, r8, r9, r10, r11, r12, r13⟩ : Rul)
  generalize C9 (⟨r0, r1, r2, r3, r4, r5, r6, r7, r8, r9, r10, r11, r12, r13⟩ : Rul) = X at nk
  obtain ⟨⟨⟨m0, m1, m2, m3, m4, m5, m6, m7, m8, m9, m10, m11, m12, m13⟩, m14, m15, m16, m17, m18, m19, m20, m21, m22⟩, l⟩ := X
  simp only at nk
  simp only [PXb, PXc, PXk, Nat.reduceAdd]
  cases hl : l == 0
  case false => rfl
  have ok := nk hl
  simp only [PXb]
  refine AJ (MB (St := Rows × Mat) (len := L.length) (enc := fun i s => [.rows s.1, .int (i : Int), .str s.2.rules.name, .int s.2.rules.side, .int s.2.rules.innings, .int s.2.rules.overs, .int s.2.rules.balls, .int s.2.rules.quota, .int s.2.rules.wide, .int s.2.rules.noball, .bool s.2.rules.freehit, .int s.2.rules.newball, .int s.2.rules.followon, .int s.2.rules.reviews, .int s.2.rules.outside, .rows s.2.rules.power, .int s.2.stage, .int s.2.first, .bool s.2.follow, .rows (AQ s.2.inns), .int s.2.pen1, .int s.2.pen2, .int s.2.win, .int s.2.wside, .int s.2.margin])
    (body := SV L) (fin := fun s => .int 1 :: .rows s.1 :: s.2.ls) (fun i s => StepOk (⟨r0, r1, r2, r3, r4, r5, r6, r7, r8, r9, r10, r11, r12, r13⟩ : Rul) s.2 ∧ s.1.length ≤ i) ?_ ?_ L.length 0 ([], (⟨⟨m0, m1, m2, m3, m4, m5, m6, m7, m8, m9, m10, m11, m12, m13⟩, m14, m15, m16, m17, m18, m19, m20, m21, m22⟩ : Mat)) N (by omega) (by omega) ⟨ok, Nat.zero_le _⟩) ?_
  · intro m self _
    simp only [PXb, PXc, PXn, AB, Aj]
    rfl
  · intro i s self hi ok
    obtain ⟨out, ⟨⟨a0, a1, a2, a3, a4, a5, a6, a7, a8, a9, a10, a11, a12, a13⟩, a14, a15, a16, a17, a18, a19, a20, a21, a22⟩⟩ := s
    obtain ⟨ok, hout⟩ := ok
    have o1 := ok.rules
    have o2 := ok.fit
    have o3 := ok.len
    simp only at o1 o2 o3 hout
    cases o1
    have kp := W5 ok (i : Int) (evR L i)
    have acc := nF (m := (⟨⟨r0, r1, r2, r3, r4, r5, r6, r7, r8, r9, r10, r11, r12, r13⟩, a14, a15, a16, a17, a18, a19, a20, a21, a22⟩ : Mat)) (i := (i : Int)) (e := evR L i)
    refine ⟨?_, ?_⟩
    · simp only [PXb, PXc, PXn, AB, AO (show i ≤ 1099511627776 by omega), Ae hi, AP hi, Od, qk hN o2 (show a17.length ≤ 1000000 by omega) hs h13, A2, SN, Nat.reduceAdd, PXk, PXc, ph, List.length_append, List.length_cons, List.length_nil, I3]
      unfold SV
      simp only
      generalize hT : Am (i : Int) (⟨⟨r0, r1, r2, r3, r4, r5, r6, r7, r8, r9, r10, r11, r12, r13⟩, a14, a15, a16, a17, a18, a19, a20, a21, a22⟩ : Mat) (evR L i) = T at acc
      obtain ⟨⟨⟨b0, b1, b2, b3, b4, b5, b6, b7, b8, b9, b10, b11, b12, b13⟩, b14, b15, b16, b17, b18, b19, b20, b21, b22⟩, l2⟩ := T
      simp only at acc
      simp only
      cases hl2 : l2 == 0
      case false => rfl
      have hk0 : (evR L i).kind = atI L i 0 := rfl
      rw [hk0]
      simp only [PXb]
      cases hk : atI L i 0 == 4
      case false => rfl
      have ha := (acc hl2).1
      have hd := ru (m := (⟨⟨r0, r1, r2, r3, r4, r5, r6, r7, r8, r9, r10, r11, r12, r13⟩, a14, a15, a16, a17, a18, a19, a20, a21, a22⟩ : Mat)) (e := evR L i) o3 (by rw [← ha]; exact hl2) hk (congrArg Prod.fst ha).symm
      simp only at hd
      have h216 : iSm ((out.length + 1 : Nat) : Int) 216 = true := Ey (by omega) (by omega)
      simp only [PXb, PXc, gY hd.1 hd.2, h216]
      rfl
    · intro s' h
      unfold SV at h
      simp only at h
      cases hq : (Am (i : Int) (⟨⟨r0, r1, r2, r3, r4, r5, r6, r7, r8, r9, r10, r11, r12, r13⟩, a14, a15, a16, a17, a18, a19, a20, a21, a22⟩ : Mat) (evR L i)).2 == 0 with
      | false => rw [hq] at h; cases h
      | true =>
        rw [hq] at h; cases h
        refine ⟨kp, ?_⟩
        cases (evR L i).kind == 4 with
        | false => show out.length ≤ _; omega
        | true => show (out ++ [_]).length ≤ _; rw [List.length_append]; simp; omega
  · rw [jw]
    have he := ej L L.length 0 (⟨⟨m0, m1, m2, m3, m4, m5, m6, m7, m8, m9, m10, m11, m12, m13⟩, m14, m15, m16, m17, m18, m19, m20, m21, m22⟩ : Mat)
    simp only
    generalize OE L L.length 0 (⟨⟨m0, m1, m2, m3, m4, m5, m6, m7, m8, m9, m10, m11, m12, m13⟩, m14, m15, m16, m17, m18, m19, m20, m21, m22⟩ : Mat) [] = out
    generalize Co L L.length 0 (⟨⟨m0, m1, m2, m3, m4, m5, m6, m7, m8, m9, m10, m11, m12, m13⟩, m14, m15, m16, m17, m18, m19, m20, m21, m22⟩ : Mat) = f at he
    obtain ⟨⟨⟨a0, a1, a2, a3, a4, a5, a6, a7, a8, a9, a10, a11, a12, a13⟩, a14, a15, a16, a17, a18, a19, a20, a21, a22⟩, b, l⟩ := f
    simp only at he
    unfold qh
    cases hb : b == -1 with
    | false => rfl
    | true =>
      rw [he hb, beq_iff_eq.1 hb]
      rfl
end Go.Px
end
section
namespace Go.Px
set_option maxRecDepth 100000
theorem mq {N : Nat} {r1 r2 r3 r4 r5 r6 r7 r9 r10 r11 r12 : Int} {r8 : Bool} {r0 : ByteArray} {r13 : Rows} {L : Rows} (hN : 2097152 < N) (hs : r0.size ≤ 1048576) (h13 : r13.length ≤ 1048576) (hL : L.length ≤ 1048576) : Jd N [.str r0, .int r1, .int r2, .int r3, .int r4, .int r5, .int r6, .int r7, .bool r8, .int r9, .int r10, .int r11, .int r12, .rows r13, .rows L] = some (bh (CG (⟨r0, r1, r2, r3, r4, r5, r6, r7, r8, r9, r10, r11, r12, r13⟩ : Rul) L)) := by
 show JJ (std (DM N) N) (xOf _) = _
 generalize hres : (some (bh (CG (⟨r0, r1, r2, r3, r4, r5, r6, r7, r8, r9, r10, r11, r12, r13⟩ : Rul) L)) : Option (List PV)) = RR
 simp only [JJ, W9, MO, std, xOf, PXb, jX hN hs h13]
 subst hres; simp only [CG]
 have nk := bS (⟨r0, r1, r2, r3, r4, r5, r6, r7, r8, r9, r10, r11, r12, r13⟩ : Rul)
 generalize C9 (⟨r0, r1, r2, r3, r4, r5, r6, r7, r8, r9, r10, r11, r12, r13⟩ : Rul) = X at nk
 obtain ⟨⟨⟨m0, m1, m2, m3, m4, m5, m6, m7, m8, m9, m10, m11, m12, m13⟩, m14, m15, m16, m17, m18, m19, m20, m21, m22⟩, l⟩ := X
 simp only at nk
 simp only [PXb, PXc, PXk, Nat.reduceAdd]
 cases hl : l == 0
 case false => rfl
 have ok := nk hl
 have o1 := ok.rules
 have o2 := ok.fit
 have o3 := ok.len
 simp only at o1 o2 o3
 cases o1
 simp only [PXb, MO, qA hN o2 o3 hs h13 hL]
 rfl
def Vu (L : Rows) (n : Int) : Rows := (L.take n.toNat).drop (0 : Int).toNat
theorem km {N : Nat} {r1 r2 r3 r4 r5 r6 r7 r9 r10 r11 r12 : Int} {r8 : Bool} {r0 : ByteArray} {r13 : Rows}  : Ht N [.str r0, .int r1, .int r2, .int r3, .int r4, .int r5, .int r6, .int r7, .bool r8, .int r9, .int r10, .int r11, .int r12, .rows r13] = some (JW (⟨r0, r1, r2, r3, r4, r5, r6, r7, r8, r9, r10, r11, r12, r13⟩ : Rul)).ls := by
 show H1 (std (Fp N) N) (xOf _) = _
 simp only [H1, std, xOf, PXb, PXc, PXn, PXm, Nat.reduceAdd, Int.reduceBEq, qI (show (0 : Int) ≤ 20 by omega), qI (show (0 : Int) ≤ 10 by omega)]
 rfl
theorem sR {N : Nat} {L : Rows}  : Qb N [.rows L] = some [.rows (cut L 70)] := by
 show QM (std (Kz N) N) (xOf _) = _
 simp only [QM, std, xOf, PXb, PXc, PXn, PXm, Nat.reduceAdd, Int.reduceBEq, qI (show (0 : Int) ≤ 70 by omega)]
 rfl
structure LogOk (m : Mat) : Prop where
 fit : C8 m.inns
 len : m.inns.length ≤ 5
 name : m.rules.name.size ≤ 1048576
 power : m.rules.power.length ≤ 1048576
theorem ta : LogOk lD := ⟨fun i hi => absurd hi (Nat.not_lt_zero i), Nat.zero_le _, Nat.zero_le _, Nat.zero_le _⟩
theorem pH {r : Rul} (L : Rows) : ∀ k i m, StepOk r m → StepOk r (Co L k i m).1
 | 0, _, _, h => h
 | k + 1, i, m, h => by
  unfold Co
  cases (Am i m (evR L i)).2 == 0 with
  | false => exact h
  | true => exact pH L k (i + 1) _ (W5 h _ _)
theorem rW {r : Rul} (L : Rows) (hs : r.name.size ≤ 1048576) (hp : r.power.length ≤ 1048576) : LogOk (CG r L).1 := by
 unfold CG
 cases h : (C9 r).2 == 0 with
 | false => exact ta
 | true =>
  have := pH L L.length 0 _ (bS r h)
  exact ⟨this.fit, this.len, by show (Co _ _ _ _).1.rules.name.size ≤ _; rw [this.rules]; exact hs, by show (Co _ _ _ _).1.rules.power.length ≤ _; rw [this.rules]; exact hp⟩
end Go.Px
end
section
namespace Go.Px
set_option maxRecDepth 100000
def acc (L : Rows) : Nat → Nat → Mat → Prop
 | 0, _, _ => True
 | k + 1, i, m => ((Am i m (evR L i)).2 == 0) = true ∧ acc L k (i + 1) (Am i m (evR L i)).1
def stM (L : Rows) : Nat → Nat → Mat → Mat
 | 0, _, m => m
 | k + 1, i, m => stM L k (i + 1) (Am i m (evR L i)).1
def fE (L : Rows) : Nat → Nat → Mat → Rows → Rows
 | 0, _, _, out => out
 | k + 1, i, m, out => fE L k (i + 1) (Am i m (evR L i)).1 (cond ((evR L i).kind == 4) (out ++ [QB i m (Am i m (evR L i)).1 (evR L i).ball]) out)
theorem mu (L : Rows) : ∀ K i m, ∃ k, k ≤ K ∧ acc L k i m ∧ (∀ out, OE L K i m out = fE L k i m out) ∧
    ((k = K ∧ Co L K i m = (stM L k i m, -1, 0)) ∨ (k < K ∧ ((Am ((i + k : Nat) : Int) (stM L k i m) (evR L (i + k))).2 == 0) = false ∧ Co L K i m = (stM L k i m, ((i + k : Nat) : Int), (Am ((i + k : Nat) : Int) (stM L k i m) (evR L (i + k))).2)))
  | 0, i, m => ⟨0, Nat.le_refl _, trivial, fun _ => rfl, Or.inl ⟨rfl, rfl⟩⟩
  | K + 1, i, m => by
    cases hq : (Am i m (evR L i)).2 == 0 with
    | false =>
      refine ⟨0, Nat.zero_le _, trivial, fun out => ?_, Or.inr ⟨Nat.succ_pos _, hq, ?_⟩⟩
      · simp only [OE, hq, Bool.not_false, cond_true]; rfl
      · simp only [Co, hq, Bool.not_false, cond_true]; rfl
    | true =>
      obtain ⟨k, h1, h2, h3, h4⟩ := mu L K (i + 1) (Am i m (evR L i)).1
      refine ⟨k + 1, Nat.succ_le_succ h1, ⟨hq, h2⟩, fun out => ?_, ?_⟩
      · simp only [OE, hq, Bool.not_true, cond_false]
        exact h3 _
      · have e : Co L (K + 1) i m = Co L K (i + 1) (Am i m (evR L i)).1 := by simp only [Co, hq, Bool.not_true, cond_false]
        rw [e, show i + (k + 1) = i + 1 + k by omega]
        rcases h4 with ⟨h5, h6⟩ | ⟨h5, h6⟩
        · exact Or.inl ⟨by omega, h6⟩
        · exact Or.inr ⟨by omega, h6⟩
theorem tE {L : Rows} {n : Int} {i : Nat} (h : (i : Int) < n) : evR (Vu L n) i = evR L i := by
 have e : ∀ j, AK (Vu L n) i j = AK L i j := fun j => by
  unfold AK A5 Vu
  rw [List.getD_eq_getElem?_getD, List.getD_eq_getElem?_getD, List.getElem?_drop, List.getElem?_take, if_pos (by omega)]
  simp
 unfold evR atI atB
 simp only [e]
theorem pi {L : Rows} {n : Nat} (h : n ≤ L.length) : (Vu L (n : Int)).length = n := by
 unfold Vu
 rw [List.length_drop, List.length_take]
 omega
theorem tk {r : Rul} {L : Rows} : ∀ k i m, StepOk r m → StepOk r (stM L k i m)
 | 0, _, _, h => h
 | k + 1, i, m, h => tk k (i + 1) _ (W5 h _ _)
theorem lR {L : Rows} : ∀ k i m, stM L (k + 1) i m = (Am ((i + k : Nat) : Int) (stM L k i m) (evR L (i + k))).1
 | 0, i, m => rfl
 | k + 1, i, m => by
  show stM L (k + 1) (i + 1) _ = _
  rw [lR k (i + 1), show i + 1 + k = i + (k + 1) by omega]
  rfl
end Go.Px
end
section
namespace Go.Px
set_option maxRecDepth 100000
theorem rM {L : Rows} : ∀ k i m, acc L k i m → ∀ j, j < k → ((Am ((i + j : Nat) : Int) (stM L j i m) (evR L (i + j))).2 == 0) = true
 | 0, _, _, _, j, h => absurd h (Nat.not_lt_zero j)
 | k + 1, i, m, ha, 0, _ => ha.1
 | k + 1, i, m, ha, j + 1, h => by
  have := rM k (i + 1) _ ha.2 j (by omega)
  rw [show i + 1 + j = i + (j + 1) by omega] at this
  exact this
def lG (L : Rows) : Nat → Nat → Mat → Rows → Rows
 | 0, _, _, out => out
 | k + 1, i, m, out => lG L k (i + 1) (DC m (evR L i)).1 (cond ((evR L i).kind == 4) (out ++ [QB i m (DC m (evR L i)).1 (evR L i).ball]) out)
theorem mj {L X : Rows} : ∀ k i m out, acc L k i m → (∀ j, j < i + k → evR X j = evR L j) → lG X k i m out = fE L k i m out
 | 0, _, _, _, _, _ => rfl
 | k + 1, i, m, out, ha, he => by
  have e := (nF ha.1).1
  have ih := mj k (i + 1) (Am i m (evR L i)).1 (cond ((evR L i).kind == 4) (out ++ [QB i m (Am i m (evR L i)).1 (evR L i).ball]) out) ha.2 (fun j h => he j (by omega))
  unfold lG fE
  rw [he i (by omega), ← e]
  exact ih
def lB (X : Rows) (i : Nat) (s : Rows × Mat) : List PV ⊕ Rows × Mat := .inr (cond ((evR X i).kind == 4) (s.1 ++ [QB i s.2 (DC s.2 (evR X i)).1 (evR X i).ball]) s.1, (DC s.2 (evR X i)).1)
theorem gA (X : Rows) : ∀ k i s, R7 (lB X) (fun s => [.rows s.1]) k i s = [.rows (lG X k i s.2 s.1)]
 | 0, _, _ => rfl
 | k + 1, i, s => gA X k (i + 1) _
def M1 (r : Rul) (L : Rows) : Rows := cond (iLe 0 (CG r L).2.1) (Vu L (CG r L).2.1) L
theorem ui {r : Rul} {L : Rows} (hc : ((C9 r).2 == 0) = true) : (M1 r L).length ≤ L.length ∧ acc L (M1 r L).length 0 (C9 r).1 ∧ (∀ j, j < (M1 r L).length → evR (M1 r L) j = evR L j) ∧ BN r L = fE L (M1 r L).length 0 (C9 r).1 [] ∧ (iLe 0 (CG r L).2.1 = true → iRg 0 (CG r L).2.1 (L.length : Int) = true) := by
 obtain ⟨k, h1, h2, h3, h4⟩ := mu L L.length 0 (C9 r).1
 have hr : CG r L = Co L L.length 0 (C9 r).1 := by unfold CG; rw [hc]; rfl
 have hp : BN r L = OE L L.length 0 (C9 r).1 [] := by unfold BN; rw [hc]; rfl
 unfold M1
 rw [hr, hp]
 rcases h4 with ⟨h5, h6⟩ | ⟨h5, h6, h7⟩
 ·rw [h6]
  subst h5
  exact ⟨Nat.le_refl _, h2, fun _ _ => rfl, h3 [], fun h => absurd (show iLe (0 : Int) (-1) = true from h) (by decide)⟩
 ·rw [h7]
  have hk : iLe 0 ((0 + k : Nat) : Int) = true := by simp only [iLe, decide_eq_true_eq]; omega
  simp only [hk, cond_true]
  rw [Nat.zero_add, pi h1]
  exact ⟨h1, h2, fun j hj => tE (by omega), h3 [], fun _ => by simp only [iRg, decide_eq_true_eq]; omega⟩
set_option maxHeartbeats 8000000 in
theorem gU {N : Nat} {r1 r2 r3 r4 r5 r6 r7 r9 r10 r11 r12 : Int} {r8 : Bool} {r0 : ByteArray} {r13 : Rows} {L : Rows} (hN : 2097152 < N) (hs : r0.size ≤ 1048576) (h13 : r13.length ≤ 1048576) (hL : L.length ≤ 1048576) : Hk N [.str r0, .int r1, .int r2, .int r3, .int r4, .int r5, .int r6, .int r7, .bool r8, .int r9, .int r10, .int r11, .int r12, .rows r13, .rows L] = some (TN (BN (⟨r0, r1, r2, r3, r4, r5, r6, r7, r8, r9, r10, r11, r12, r13⟩ : Rul) L) (CG (⟨r0, r1, r2, r3, r4, r5, r6, r7, r8, r9, r10, r11, r12, r13⟩ : Rul) L)) := by
  show NE (std (Cv N) N) (xOf _) = _
  generalize hres : (some (TN (BN (⟨r0, r1, r2, r3, r4, r5, r6, r7, r8, r9, r10, r11, r12, r13⟩ : Rul) L) (CG (⟨r0, r1, r2, r3, r4, r5, r6, r7, r8, r9, r10, r11, r12, r13⟩ : Rul) L)) : Option (List PV)) = RR
  simp only [NE, Wq, aW, Ok, MJ, std, xOf, PXb, mq hN hs h13 hL, jX hN hs h13]
  subst hres
  cases hc : (C9 (⟨r0, r1, r2, r3, r4, r5, r6, r7, r8, r9, r10, r11, r12, r13⟩ : Rul)).2 == 0
  case false =>
    have e1 : CG (⟨r0, r1, r2, r3, r4, r5, r6, r7, r8, r9, r10, r11, r12, r13⟩ : Rul) L = (lD, 0, 1) := by unfold CG; rw [hc]; rfl
    have e2 : BN (⟨r0, r1, r2, r3, r4, r5, r6, r7, r8, r9, r10, r11, r12, r13⟩ : Rul) L = [] := by unfold BN; rw [hc]; rfl
    have hr : iRg 0 0 (L.length : Int) = true := by simp only [iRg, decide_eq_true_eq]; omega
    rw [e1, e2]
    simp only [GH, bh, PXb, PXc, hc, hr, show iLe (0 : Int) 0 = true from rfl]
    rfl
  obtain ⟨p1, p2, p3, p4, p5⟩ := ui (L := L) hc
  have q1 : (M1 (⟨r0, r1, r2, r3, r4, r5, r6, r7, r8, r9, r10, r11, r12, r13⟩ : Rul) L).length ≤ 1048576 := by omega
  refine bind_ok (r := [.rows (M1 (⟨r0, r1, r2, r3, r4, r5, r6, r7, r8, r9, r10, r11, r12, r13⟩ : Rul) L)]) ?_ ?_
  · unfold M1
    simp only [bh, PXb, PXc]
    cases hp : iLe 0 (CG (⟨r0, r1, r2, r3, r4, r5, r6, r7, r8, r9, r10, r11, r12, r13⟩ : Rul) L).2.1 with
    | false => rfl
    | true => rw [p5 hp]; rfl
  have okm := bS (⟨r0, r1, r2, r3, r4, r5, r6, r7, r8, r9, r10, r11, r12, r13⟩ : Rul) hc
  have on := fun i => tk (L := L) i 0 _ okm
  have aat := rM _ 0 _ p2
  rw [p4]
  have d1 := mj (X := M1 (⟨r0, r1, r2, r3, r4, r5, r6, r7, r8, r9, r10, r11, r12, r13⟩ : Rul) L) _ 0 _ [] p2 (fun j hj => p3 j (by omega))
  rw [← d1]
  generalize hX : M1 (⟨r0, r1, r2, r3, r4, r5, r6, r7, r8, r9, r10, r11, r12, r13⟩ : Rul) L = X at *
  clear hX d1 p4 p5
  simp only [GH, PXb, PXc, hc, Nat.reduceAdd]
  refine AJ (MB (St := Rows × Mat) (len := X.length) (enc := fun i s => [.rows s.1, .int (i : Int), .str s.2.rules.name, .int s.2.rules.side, .int s.2.rules.innings, .int s.2.rules.overs, .int s.2.rules.balls, .int s.2.rules.quota, .int s.2.rules.wide, .int s.2.rules.noball, .bool s.2.rules.freehit, .int s.2.rules.newball, .int s.2.rules.followon, .int s.2.rules.reviews, .int s.2.rules.outside, .rows s.2.rules.power, .int s.2.stage, .int s.2.first, .bool s.2.follow, .rows (AQ s.2.inns), .int s.2.pen1, .int s.2.pen2, .int s.2.win, .int s.2.wside, .int s.2.margin])
    (body := lB X) (fin := fun s => [.rows s.1]) (fun i s => s.2 = stM L i 0 (C9 (⟨r0, r1, r2, r3, r4, r5, r6, r7, r8, r9, r10, r11, r12, r13⟩ : Rul)).1 ∧ s.1.length ≤ i) ?_ ?_ X.length 0 ([], (C9 (⟨r0, r1, r2, r3, r4, r5, r6, r7, r8, r9, r10, r11, r12, r13⟩ : Rul)).1) N (by omega) (by omega) ⟨rfl, Nat.zero_le _⟩) ?_
  · intro m self _
    simp only [PXb, PXc, PXn, AB, Aj]
  · intro i s self hi ok
    obtain ⟨out, m⟩ := s
    obtain ⟨ok, hout⟩ := ok
    simp only at ok hout
    have oi := on i
    have ai := aat i hi
    have si := lR (L := L) i 0 (C9 (⟨r0, r1, r2, r3, r4, r5, r6, r7, r8, r9, r10, r11, r12, r13⟩ : Rul)).1
    rw [Nat.zero_add] at ai si
    rw [← ok] at oi ai si
    rw [← p3 i hi] at ai si
    have st := (nF ai).1
    rw [st] at ai si
    clear ok st aat on
    obtain ⟨⟨a0, a1, a2, a3, a4, a5, a6, a7, a8, a9, a10, a11, a12, a13⟩, a14, a15, a16, a17, a18, a19, a20, a21, a22⟩ := m
    have o1 := oi.rules
    have o2 := oi.fit
    have o3 := oi.len
    simp only at o1 o2 o3
    cases o1
    refine ⟨?_, ?_⟩
    · simp only [PXb, PXc, PXn, AB, AO (show i ≤ 1099511627776 by omega), Ae hi, AP hi, Ok, ew hN o2 (show a17.length ≤ 1000000 by omega) hs h13, A2, SN, Nat.reduceAdd, PXk, PXc, ph, List.length_append, List.length_cons, List.length_nil, PXi]
      unfold lB
      simp only
      have hk0 : (evR X i).kind = atI X i 0 := rfl
      rw [hk0]
      cases hk : atI X i 0 == 4
      case false => rfl
      have hd := ru (m := (⟨⟨r0, r1, r2, r3, r4, r5, r6, r7, r8, r9, r10, r11, r12, r13⟩, a14, a15, a16, a17, a18, a19, a20, a21, a22⟩ : Mat)) (e := evR X i) o3 ai hk rfl
      simp only at hd
      have h216 : iSm ((out.length + 1 : Nat) : Int) 216 = true := Ey (by omega) (by omega)
      simp only [PXb, PXc, hd.1, hd.2, h216, MJ, ZX, Cre.ls]
      simp only [atI, atB, PXi]
      rfl
    · intro s' h
      unfold lB at h
      cases h
      refine ⟨si.symm, ?_⟩
      show (cond ((evR X i).kind == 4) (out ++ [_]) out).length ≤ i + 1
      cases (evR X i).kind == 4 with
      | false => show out.length ≤ _; omega
      | true => show (out ++ [_]).length ≤ _; rw [List.length_append]; simp; omega
  · rw [gA]
    rfl
theorem Xw (r : Rul) (L : Rows) : (BN r L).length ≤ L.length := by
 unfold BN
 cases (C9 r).2 == 0 with
 | false => exact Nat.zero_le _
 | true =>
  have := mT L L.length 0 (C9 r).1 []
  rw [List.length_nil, Nat.zero_add] at this
  exact this
def bc (D : Rows) (i : Nat) : List PV := [.int (atI D i 8), .int (atI D i 9), .int (atI D i 10), .int (atI D i 11), .int (atI D i 12), .bool (atB D i 13), .int (atI D i 14), .int (atI D i 15), .int (atI D i 16), .int (atI D i 17), .bool (atB D i 18), .int (atI D i 19)]
def Hi (D : Rows) : Nat → Nat → Rows → Rows
 | 0, _, out => out
 | k + 1, i, out => Hi D k (i + 1) (out ++ [bc D i])
theorem X3 (D : Rows) : ∀ k i out, R7 (fun i out => (.inr (out ++ [bc D i]) : List PV ⊕ Rows)) (fun out => [.rows out]) k i out = [.rows (Hi D k i out)]
 | 0, _, _ => rfl
 | k + 1, i, out => X3 D k (i + 1) _
theorem jf (D : Rows) : ∀ k i out, (Hi D k i out).length = out.length + k
 | 0, _, _ => rfl
 | k + 1, i, out => by
  rw [Hi, jf D k]
  simp
  omega
set_option maxHeartbeats 2000000 in
theorem oZ {N : Nat} {r1 r2 r3 r4 r5 r6 r7 r9 r10 r11 r12 : Int} {r8 : Bool} {r0 : ByteArray} {r13 : Rows} {L : Rows} (hN : 2097152 < N) (hs : r0.size ≤ 1048576) (h13 : r13.length ≤ 1048576) (hL : L.length ≤ 1048576) : K2 N [.str r0, .int r1, .int r2, .int r3, .int r4, .int r5, .int r6, .int r7, .bool r8, .int r9, .int r10, .int r11, .int r12, .rows r13, .rows L] = some [.rows (Hi (BN (⟨r0, r1, r2, r3, r4, r5, r6, r7, r8, r9, r10, r11, r12, r13⟩ : Rul) L) (BN (⟨r0, r1, r2, r3, r4, r5, r6, r7, r8, r9, r10, r11, r12, r13⟩ : Rul) L).length 0 [])] := by
 show Kp (std (FF N) N) (xOf _) = _
 generalize hres : (some [.rows (Hi (BN (⟨r0, r1, r2, r3, r4, r5, r6, r7, r8, r9, r10, r11, r12, r13⟩ : Rul) L) (BN (⟨r0, r1, r2, r3, r4, r5, r6, r7, r8, r9, r10, r11, r12, r13⟩ : Rul) L).length 0 [])] : Option (List PV)) = RR
 have hl := Xw (⟨r0, r1, r2, r3, r4, r5, r6, r7, r8, r9, r10, r11, r12, r13⟩ : Rul) L
 simp only [Kp, XP, std, xOf, PXb, fN hN hs h13 hL, TN]
 generalize BN (⟨r0, r1, r2, r3, r4, r5, r6, r7, r8, r9, r10, r11, r12, r13⟩ : Rul) L = D at *
 subst hres
 refine AJ (MB (St := Rows) (len := D.length) (enc := fun i s => [.rows s, .int (i : Int)]) (body := fun i out => .inr (out ++ [bc D i])) (fin := fun s => [.rows s]) (fun i s => s.length ≤ i) ?_ ?_ D.length 0 [] N (by omega) (by omega) (Nat.zero_le _)) ?_
 ·intro s self _
  simp only [PXb, PXc, PXn, AB, Aj]
 ·intro i s self hi ok
  refine ⟨?_, fun s' h => ?_⟩
  ·have h80 : iSm ((s.length + 1 : Nat) : Int) 80 = true := Ey (by omega) (by omega)
   simp only [PXb, PXc, PXn, AB, AO (show i ≤ 1099511627776 by omega), Ae hi, AP hi, A2, SN, Nat.reduceAdd, List.length_append, List.length_cons, List.length_nil, h80]
   rfl
  ·cases h
   simp
   omega
 ·rw [X3]
  rfl
set_option maxHeartbeats 2000000 in
theorem ni {N : Nat} {r1 r2 r3 r4 r5 r6 r7 r9 r10 r11 r12 : Int} {r8 : Bool} {r0 : ByteArray} {r13 : Rows} {L : Rows} (hN : 2097152 < N) (hs : r0.size ≤ 1048576) (h13 : r13.length ≤ 1048576) (hL : L.length ≤ 1048576) : Kd N [.str r0, .int r1, .int r2, .int r3, .int r4, .int r5, .int r6, .int r7, .bool r8, .int r9, .int r10, .int r11, .int r12, .rows r13, .rows L] = some [.rows (Hi (BN (⟨r0, r1, r2, r3, r4, r5, r6, r7, r8, r9, r10, r11, r12, r13⟩ : Rul) L) (BN (⟨r0, r1, r2, r3, r4, r5, r6, r7, r8, r9, r10, r11, r12, r13⟩ : Rul) L).length 0 [])] := by
 show Kg (std (FE N) N) (xOf _) = _
 generalize hres : (some [.rows (Hi (BN (⟨r0, r1, r2, r3, r4, r5, r6, r7, r8, r9, r10, r11, r12, r13⟩ : Rul) L) (BN (⟨r0, r1, r2, r3, r4, r5, r6, r7, r8, r9, r10, r11, r12, r13⟩ : Rul) L).length 0 [])] : Option (List PV)) = RR
 have hl := Xw (⟨r0, r1, r2, r3, r4, r5, r6, r7, r8, r9, r10, r11, r12, r13⟩ : Rul) L
 simp only [Kg, Xy, std, xOf, PXb, gU hN hs h13 hL, TN]
 generalize BN (⟨r0, r1, r2, r3, r4, r5, r6, r7, r8, r9, r10, r11, r12, r13⟩ : Rul) L = D at *
 subst hres
 refine AJ (MB (St := Rows) (len := D.length) (enc := fun i s => [.rows s, .int (i : Int)]) (body := fun i out => .inr (out ++ [bc D i])) (fin := fun s => [.rows s]) (fun i s => s.length ≤ i) ?_ ?_ D.length 0 [] N (by omega) (by omega) (Nat.zero_le _)) ?_
 ·intro s self _
  simp only [PXb, PXc, PXn, AB, Aj]
 ·intro i s self hi ok
  refine ⟨?_, fun s' h => ?_⟩
  ·have h80 : iSm ((s.length + 1 : Nat) : Int) 80 = true := Ey (by omega) (by omega)
   simp only [PXb, PXc, PXn, AB, AO (show i ≤ 1099511627776 by omega), Ae hi, AP hi, A2, SN, Nat.reduceAdd, List.length_append, List.length_cons, List.length_nil, h80]
   rfl
  ·cases h
   simp
   omega
 ·rw [X3]
  rfl
set_option maxHeartbeats 4000000 in
theorem iy {N : Nat} {r1 r2 r3 r4 r5 r6 r7 r9 r10 r11 r12 : Int} {r8 : Bool} {r0 : ByteArray} {r13 : Rows} {L : Rows} (ha : IK N [] = some [.bool true]) (hN : 2097152 < N) (hs : r0.size ≤ 1048576) : Ga N [.str r0, .int r1, .int r2, .int r3, .int r4, .int r5, .int r6, .int r7, .bool r8, .int r9, .int r10, .int r11, .int r12, .rows r13, .rows L] = some [.bool true] := by
 show GU (std (A0 N) N) (xOf _) = _
 have nn := nE (⟨r0, r1, r2, r3, r4, r5, r6, r7, r8, r9, r10, r11, r12, r13⟩ : Rul) hs
 have p := kY (⟨r0, r1, r2, r3, r4, r5, r6, r7, r8, r9, r10, r11, r12, r13⟩ : Rul)
 have l : (cut L 70).length ≤ 1048576 := Nat.le_trans (rK L 70) (show 70 ≤ 1048576 by omega)
 have k := rW (r := JW (⟨r0, r1, r2, r3, r4, r5, r6, r7, r8, r9, r10, r11, r12, r13⟩ : Rul)) (cut L 70) nn p
 have pl := Xw (JW (⟨r0, r1, r2, r3, r4, r5, r6, r7, r8, r9, r10, r11, r12, r13⟩ : Rul)) (cut L 70)
 have bl := jf (BN (JW (⟨r0, r1, r2, r3, r4, r5, r6, r7, r8, r9, r10, r11, r12, r13⟩ : Rul)) (cut L 70)) (BN (JW (⟨r0, r1, r2, r3, r4, r5, r6, r7, r8, r9, r10, r11, r12, r13⟩ : Rul)) (cut L 70)).length 0 []
 simp only [GU, Su, Qm, VK, Tm, T2, Ty, S1, S6, std, xOf, PXb, PXc, PXn, PXm, Nat.reduceAdd, Int.reduceBEq, ha, km, sR, Rul.ls, fN hN nn p l, gU hN nn p l, oZ hN nn p l, ni hN nn p l, TN, gC hN k.fit (Nat.le_trans k.len (show 5 ≤ 1000000 by omega)) k.power]
 generalize BN (JW (⟨r0, r1, r2, r3, r4, r5, r6, r7, r8, r9, r10, r11, r12, r13⟩ : Rul)) (cut L 70) = D at *
 generalize Hi D D.length 0 [] = X at *
 refine AJ (C0 (len := D.length) (fun i => [.int (i : Int)]) [.int 1] ?_ ?_ N (by omega)) ?_
 ·intro self
  simp only [PXb, PXc, PXn, AB, Aj]
 ·intro i self hi
  simp only [PXb, PXc, PXn, PXm, Nat.reduceAdd, Int.reduceBEq, AO (show i ≤ 1099511627776 by omega), Ae hi, AP hi]
  rfl
 ·simp only [PXb, PXc, PXn, PXm, Nat.reduceAdd, Int.reduceBEq]
  refine AJ (C0 (len := X.length) (fun i => [.int (i : Int)]) [.int 1] ?_ ?_ N (by rw [bl, List.length_nil]; omega)) ?_
  ·intro self
   simp only [PXb, PXc, PXn, AB, Aj]
  ·intro i self hi
   rw [bl, List.length_nil] at hi
   simp only [PXb, PXc, PXn, PXm, Nat.reduceAdd, Int.reduceBEq, AO (show i ≤ 1099511627776 by omega), Ae (show i < X.length by rw [bl, List.length_nil]; exact hi), AP (show i < X.length by rw [bl, List.length_nil]; exact hi)]
   rfl
  ·simp only [PXb, PXc, PXn, PXm, Nat.reduceAdd, Int.reduceBEq]
end Go.Px
end
