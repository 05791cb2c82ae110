/- Part 12. -/
import Derived.Test.YtapipgdcgmmkaaaGreatPart11
set_option linter.unusedVariables false
set_option linter.unusedSimpArgs false
section
namespace Go.Px
set_option maxRecDepth 100000
theorem aO {r : Rul} {a b c : Int} (h : ((BO r a b c).2 == 0) = true) : Bd 1000000 (BO r a b c).1 ∧ Shp (BO r a b c).1.batters ∧ (BO r a b c).1.side = a := by
 unfold BO at h ⊢
 cases h1 : Ap r == 0 with
 | false => rw [h1] at h; exact absurd (show (Ap r == 0) = true from h) (by rw [h1]; decide)
 | true =>
  rw [h1] at h
  cases h2 : (!btw a 1 2 || !btw b 0 1000000 || !btw c 0 1000000) with
  | true => rw [h2] at h; cases h
  | false =>
   rw [Bool.or_eq_false_iff, Bool.or_eq_false_iff, Bool.not_eq_false', Bool.not_eq_false', Bool.not_eq_false'] at h2
   have q1 := HB.1 h2.1.2
   have q2 := HB.1 h2.2
   have z : (0 : Int) ≤ 1000000 := by decide
   refine ⟨⟨q1.2, q2.2, z, z, z, z, q2.2, z, z, z, z, fun j hj => ?_⟩, fun x hx => ?_, rfl⟩
   ·show atI (List.replicate r.side.toNat [.int 0]) j 0 ≤ 1000000
    rw [fG]
    exact z
   ·have hx : x ∈ List.replicate r.side.toNat [PV.int 0] := hx
    rw [(List.mem_replicate.1 hx).2]
    exact List.cons_ne_nil _ _
def LI (K : Int) (xs : List Inn) : Prop := ∀ i, i < xs.length → Bd K (inn xs i) ∧ Shp (inn xs i).batters
theorem LI.up {K M : Int} {xs : List Inn} (h : LI K xs) (hK : K ≤ M) : LI M xs := fun i hi => ⟨(h i hi).1.up hK, (h i hi).2⟩
theorem LI.set {K : Int} {xs : List Inn} (h : LI K xs) (k : Nat) {t : Inn} (ht : Bd K t ∧ Shp t.batters) : LI K (xs.set k t) := fun i hi => by
 rw [List.length_set] at hi
 rw [TJ xs k t i hi]
 by_cases e : k = i
 ·rw [if_pos e]; exact ht
 ·rw [if_neg e]; exact h i hi
theorem LI.app {K : Int} {xs : List Inn} (h : LI K xs) {t : Inn} (ht : Bd K t ∧ Shp t.batters) : LI K (xs ++ [t]) := fun i hi => by
 rw [List.length_append] at hi
 rw [TF xs t i hi]
 by_cases e : i < xs.length
 ·rw [if_pos e]; exact h i e
 ·rw [if_neg e]; exact ht
structure Lk (r : Rul) (L : Nat) (xs ys : List Inn) : Prop where
 len : ys.length = xs.length
 ok : ∀ i, i < xs.length → InnOk r (inn ys i) ∧ (inn ys i).side = (inn xs i).side ∧ (i ≠ L → (inn ys i).ending = (inn xs i).ending)
theorem Lk.pen {r : Rul} {L : Nat} {K : Int} {xs ys : List Inn} (h : Lk r L xs ys) (hl : LI K ys) (hK : K ≤ 999999900) (k : Nat) : Lk r L xs (ys.set k (Mf (inn ys k))) := by
 refine ⟨List.length_set.trans h.len, fun i hi => ?_⟩
 obtain ⟨o1, o2, o3⟩ := h.ok i hi
 have hi' : i < ys.length := by rw [h.len]; exact hi
 rw [TJ ys k _ i hi']
 by_cases e : k = i
 ·rw [if_pos e, e]
  exact ⟨Yn o1 ((hl i hi').1.small hK), o2, o3⟩
 ·rw [if_neg e]
  exact ⟨o1, o2, o3⟩
theorem eM {xs : List Inn} {sd : Int} {k : Nat} : ∀ n, H9 xs sd n = some k → k < n
 | 0, h => by cases h
 | n + 1, h => by
  unfold H9 at h
  cases hq : (inn xs n).side == sd with
  | true => rw [hq] at h; cases h; exact Nat.lt_succ_self _
  | false => rw [hq] at h; exact Nat.lt_succ_of_lt (eM n h)
theorem Wx {K : Int} {m : Mat} {e : Ev} (hv : BM m = true) (mi : LI K m.inns) (hK : 1000000 ≤ K) (hK2 : K ≤ 900000000) (h3 : (m.stage == 3) = true) (hq : ((Av m.rules (Ax m) e).2 == 0) = true) :
    Lk m.rules (lnx m.inns) m.inns (m.inns.set (lnx m.inns) (Av m.rules (Ax m) e).1) ∧ LI (K + 100) (m.inns.set (lnx m.inns) (Av m.rules (Ax m) e).1) := by
  have ok := QM hv
  have hl := ok.len
  have hk := Sw (ok.begun h3) (by omega)
  obtain ⟨b1, b2⟩ := mi _ hk
  obtain ⟨g1, g2, g3⟩ := Y6 hq b1 b2 hK
  have ki := W9 hq b2 (b1.small (by omega))
  refine ⟨⟨List.length_set, fun i hi => ?_⟩, (mi.up (by omega)).set _ ⟨g1, g2⟩⟩
  rw [TJ _ _ _ i hi]
  by_cases e2 : lnx m.inns = i
  · rw [if_pos e2]
    subst e2
    exact ⟨ki, g3, fun h => absurd rfl h⟩
  · rw [if_neg e2]
    exact ⟨Ju.1 (ok.innv i hi).1, rfl, fun _ => rfl⟩
theorem fX {K P : Int} {m : Mat} {e : Ev} (hv : BM m = true) (mi : LI K m.inns) (h1 : m.pen1 ≤ P) (h2 : m.pen2 ≤ P) (hK : 1000000 ≤ K) (hK2 : K ≤ 900000000) (ha : ((Ae m e).2 == 0) = true) :
    LI (K + 200) (Ae m e).1.inns ∧ (Ae m e).1.pen1 ≤ P + 5 ∧ (Ae m e).1.pen2 ≤ P + 5 := by
  have ok := QM hv
  have hl := ok.len
  have pk := aI hv
  have u := mi.up (show K ≤ K + 200 by omega)
  have same : LI (K + 200) m.inns ∧ m.pen1 ≤ P + 5 ∧ m.pen2 ≤ P + 5 := ⟨u, by omega, by omega⟩
  unfold Ae at ha ⊢
  cases k1 : e.kind == 1 with
  | true => cases m.stage == 1 <;> exact same
  | false =>
    rw [k1] at ha
    cases k2 : e.kind == 2 with
    | true =>
      rw [k2] at ha
      cases h22 : m.stage == 2 with
      | false => exact same
      | true =>
        rw [h22] at ha
        simp only [Bool.not_true, cond_false, cond_true] at ha ⊢
        unfold Q5 at ha ⊢
        cases hb : (BO m.rules (Ab m (m.inns.length : Int)) (Ch m (Ab m (m.inns.length : Int))) (cond (Ab m (m.inns.length : Int) == 2) m.pen2 m.pen1)).2 == 0 with
        | false => simp only [hb, Bool.not_false, cond_true]; exact same
        | true =>
          simp only [hb, Bool.not_true, cond_false] at ha ⊢
          cases ht : (Av m.rules (BO m.rules (Ab m (m.inns.length : Int)) (Ch m (Ab m (m.inns.length : Int))) (cond (Ab m (m.inns.length : Int) == 2) m.pen2 m.pen1)).1 e).2 == 0 with
          | false => simp only [Bool.not_false, cond_true]; exact same
          | true =>
            simp only [Bool.not_true, cond_false]
            obtain ⟨b1, b2, _⟩ := aO hb
            obtain ⟨g1, g2, _⟩ := Y6 ht (b1.up hK) b2 hK
            refine ⟨u.app ⟨g1.up (by omega), g2⟩, ?_, ?_⟩
            · show cond (Ab m (m.inns.length : Int) == 1) 0 m.pen1 ≤ P + 5
              cases Ab m (m.inns.length : Int) == 1
              · exact same.2.1
              · show (0 : Int) ≤ P + 5; omega
            · show cond (Ab m (m.inns.length : Int) == 2) 0 m.pen2 ≤ P + 5
              cases Ab m (m.inns.length : Int) == 2
              · exact same.2.2
              · show (0 : Int) ≤ P + 5; omega
    | false =>
      rw [k2] at ha
      cases k12 : e.kind == 12 with
      | true =>
        cases m.stage == 4 with
        | false => exact same
        | true => cases e.side == m.first <;> exact same
      | false =>
        rw [k12] at ha
        cases k16 : e.kind == 16 with
        | true =>
          refine ⟨?_, same.2⟩
          show LI (K + 200) (cond (m.stage == 3) (m.inns.set (lnx m.inns) { Ax m with ending := 5 }) m.inns)
          cases h3 : m.stage == 3 with
          | false => exact u
          | true =>
            have hk := Sw (ok.begun h3) (by omega)
            exact u.set _ ⟨(u _ hk).1.key rfl, (u _ hk).2⟩
        | false =>
          rw [k16] at ha
          simp only [cond_false] at ha ⊢
          cases h3 : m.stage == 3 with
          | false => exact same
          | true =>
            rw [h3] at ha
            simp only [Bool.not_true, cond_false] at ha ⊢
            unfold TP at ha ⊢
            cases hq : (Av m.rules (Ax m) e).2 == 0 with
            | false => simp only [hq, Bool.not_false, cond_true]; exact same
            | true =>
              simp only [hq, Bool.not_true, cond_false]
              have pf := (Wx hv mi hK hK2 h3 hq)
              cases (e.kind == 13 && !(e.side == (Av m.rules (Ax m) e).1.side)) with
              | false => exact ⟨pf.2.up (by omega), same.2⟩
              | true =>
                simp only [cond_true]
                unfold F4
                cases hw : H9 (m.inns.set (lnx m.inns) (Av m.rules (Ax m) e).1) e.side (m.inns.set (lnx m.inns) (Av m.rules (Ax m) e).1).length with
                | none =>
                  refine ⟨pf.2.up (by omega), ?_, ?_⟩
                  · show cond (e.side == 1) (IntKind.i64.wrap (m.pen1 + 5)) m.pen1 ≤ P + 5
                    cases e.side == 1
                    · exact same.2.1
                    · show IntKind.i64.wrap (m.pen1 + 5) ≤ P + 5
                      rw [BD (by omega) (by omega)]; omega
                  · show cond (e.side == 2) (IntKind.i64.wrap (m.pen2 + 5)) m.pen2 ≤ P + 5
                    cases e.side == 2
                    · exact same.2.2
                    · show IntKind.i64.wrap (m.pen2 + 5) ≤ P + 5
                      rw [BD (by omega) (by omega)]; omega
                | some k =>
                  refine ⟨?_, same.2⟩
                  have hk := eM _ hw
                  rw [List.length_set] at hk
                  have o := (pf.1.ok k hk).1
                  have q := pf.2 k (by rw [List.length_set]; exact hk)
                  have pg := eK (K := K + 100) (n := 0) o q.1 q.2 rfl
                  exact (pf.2.up (by omega)).set k ⟨pg.1.up (by omega), pg.2.1⟩
theorem cH {m : Mat} (w a b : Int) (hc : Ap m.rules = 0) (hp : (0 ≤ m.pen1 ∧ m.pen1 ≤ 1000000) ∧ 0 ≤ m.pen2 ∧ m.pen2 ≤ 1000000) (hf : m.first = 1 ∨ m.first = 2) (hn : (m.inns.length : Int) ≤ 2 * m.rules.innings) (hfo : (m.follow && (!(m.rules.innings == 2) || iLt (m.inns.length : Int) 2)) = false)
    (hi : ∀ i, i < m.inns.length → InnOk m.rules (inn m.inns i) ∧ (inn m.inns i).side = Ab m (i : Int) ∧ ((inn m.inns i).ending == 0) = false) : BM { m with stage := 5, win := w, wside := a, margin := b } = true := by
  have rk := (F8 hc).innings
  have e2 : IntKind.i64.wrap (2 * m.rules.innings) = 2 * m.rules.innings := BD (by omega) (by omega)
  unfold BM
  rw [Bool.and_eq_true, Bool.and_eq_true]
  refine ⟨?_, ?_, ?_⟩
  · have g1 : iLt (2 * m.rules.innings) (m.inns.length : Int) = false := by simp only [iLt, decide_eq_false_iff_not]; omega
    have g2 : P8 { m with stage := 5, win := w, wside := a, margin := b } = false := by
      unfold P8
      simp only [Bool.or_eq_false_iff, iLt, decide_eq_false_iff_not]
      omega
    have g3 : (m.first == 0) = false ∧ iLt m.first 0 = false ∧ iLt 2 m.first = false := by rcases hf with h | h <;> rw [h] <;> decide
    have i1 : iLt 5 1 = false := rfl
    have i2 : iLt 5 5 = false := rfl
    unfold Q8
    simp only [g2, hc, e2, g1, g3.1, g3.2.1, g3.2.2, hfo, i1, i2, beq_self_eq_true, Int.reduceBEq, Bool.not_true, Bool.not_false, Bool.and_false, Bool.and_true, Bool.or_false, Bool.false_and, Bool.and_self]
  · rw [Bool.not_eq_true']
    refine Bw.2 fun i h0 h1 => ?_
    have h1' : i < 0 + m.inns.length := h1
    obtain ⟨o1, o2, _⟩ := hi i (by omega)
    show (!FA m.rules (inn m.inns i) || !((inn m.inns i).side == Ab m (i : Int))) = false
    rw [Ju.2 o1, o2, beq_self_eq_true]
    rfl
  · unfold OY
    rw [Bool.and_eq_true, Bool.not_eq_true']
    refine ⟨Bw.2 fun i h0 h1 => ?_, rfl⟩
    have h1' : i < 0 + m.inns.length := h1
    obtain ⟨_, _, o3⟩ := hi i (by omega)
    show (!(((inn m.inns i).ending == 0) == false)) = false
    rw [o3]
    rfl
theorem Vo {m : Mat} (hv : BM m = true) (i : Nat) (hi : i < m.inns.length) (h : (m.stage == 3) = false ∨ i ≠ lnx m.inns) : ((inn m.inns i).ending == 0) = false := by
 have ok := QM hv
 have hl := ok.len
 unfold BM at hv
 rw [Bool.and_eq_true, Bool.and_eq_true] at hv
 have he := hv.2.2
 unfold OY at he
 rw [Bool.and_eq_true, Bool.not_eq_true'] at he
 have h2 := Bw.1 he.1 i (by omega) (by omega)
 unfold R8 at h2
 rw [Bool.not_eq_false', beq_iff_eq] at h2
 rw [h2]
 rcases h with h | h
 ·rw [h]; rfl
 ·have hne : ((i : Int) == IntKind.i64.wrap ((m.inns.length : Int) - 1)) = false := by
   refine beq_false_of_ne fun e2 => h ?_
   unfold lnx
   rw [← e2]
   rfl
  rw [hne, Bool.and_false]
theorem bG {m : Mat} (hv : BM m = true) : (m.follow && (!(m.rules.innings == 2) || iLt (m.inns.length : Int) 2)) = false := by
 unfold BM Q8 at hv
 simp only [Bool.and_eq_true, Bool.not_eq_true'] at hv
 obtain ⟨⟨h1, h2, h3, h4, h5, h6, h7, h8, h9, h10⟩, h11, h12⟩ := hv
 exact h10
theorem cF {m : Mat} (hv : BM m = true) (h : (m.stage == 3) = true) : m.first = 1 ∨ m.first = 2 := by
 unfold BM Q8 at hv
 simp only [Bool.and_eq_true, Bool.not_eq_true'] at hv
 obtain ⟨⟨h1, h2, h3, h4, h5, h6, h7, h8, h9, h10⟩, h11, h12⟩ := hv
 rw [beq_iff_eq.1 h] at h6
 rw [Bool.or_eq_false_iff, Bool.or_eq_false_iff] at h5
 have a1 := h5.1.1
 have a2 := h5.1.2
 simp only [iLt, decide_eq_false_iff_not] at a1 a2
 cases h0 : m.first == 0 with
 | true => rw [h0] at h6; simp at h6
 | false =>
  rw [beq_eq_false_iff_ne] at h0
  omega
theorem eU {K : Int} {m : Mat} {e : Ev} (hv : BM m = true) (mi : LI K m.inns) (h1 : m.pen1 ≤ 900000) (h2 : m.pen2 ≤ 900000) (hK : 1000000 ≤ K) (hK2 : K ≤ 900000000) (ha : ((Ae m e).2 == 0) = true) (h3 : ((Ae m e).1.stage == 3) = true) (hE : ((Ax (Ae m e).1).ending == 0) = false) (w a b : Int) :
    BM { (Ae m e).1 with stage := 5, win := w, wside := a, margin := b } = true := by
  have ok := QM hv
  have hl := ok.len
  have pk := aI hv
  have rk := (F8 ok.code).innings
  have hfo := bG hv
  unfold Ae at ha h3 hE ⊢
  cases k1 : e.kind == 1 with
  | true =>
    rw [k1] at ha h3
    cases hs : m.stage == 1 with
    | false => rw [hs] at ha; cases ha
    | true => rw [hs] at h3; cases h3
  | false =>
    rw [k1] at ha h3 hE
    cases k2 : e.kind == 2 with
    | true =>
      rw [k2] at ha h3 hE
      cases h22 : m.stage == 2 with
      | false => rw [h22] at ha; cases ha
      | true =>
        rw [h22] at ha hE
        simp only [Bool.not_true, cond_false, cond_true] at ha hE ⊢
        unfold Q5 at ha hE ⊢
        cases hb : (BO m.rules (Ab m (m.inns.length : Int)) (Ch m (Ab m (m.inns.length : Int))) (cond (Ab m (m.inns.length : Int) == 2) m.pen2 m.pen1)).2 == 0 with
        | false => simp only [hb, Bool.not_false, cond_true] at ha; cases ha
        | true =>
          simp only [hb, Bool.not_true, cond_false] at ha hE ⊢
          cases ht : (Av m.rules (BO m.rules (Ab m (m.inns.length : Int)) (Ch m (Ab m (m.inns.length : Int))) (cond (Ab m (m.inns.length : Int) == 2) m.pen2 m.pen1)).1 e).2 == 0 with
          | false => simp only [ht, Bool.not_false, cond_true] at ha; exact absurd ha Bool.false_ne_true
          | true =>
            simp only [ht, Bool.not_true, cond_false] at hE ⊢
            obtain ⟨b1, b2, b3⟩ := aO hb
            obtain ⟨g1, g2, g3⟩ := Y6 ht (b1.up hK) b2 hK
            have ki := W9 ht b2 (b1.small (by omega))
            have hroom := ok.room h22
            rw [b3] at g3
            clear hb ha b1 b2 b3 ht
            generalize (Av m.rules (BO m.rules (Ab m (m.inns.length : Int)) (Ch m (Ab m (m.inns.length : Int))) (cond (Ab m (m.inns.length : Int) == 2) m.pen2 m.pen1)).1 e) = T at *
            refine cH (m := ⟨m.rules, 3, m.first, m.follow, m.inns ++ [T.1], cond (Ab m (m.inns.length : Int) == 1) 0 m.pen1, cond (Ab m (m.inns.length : Int) == 2) 0 m.pen2, 0, 0, 0⟩) w a b ok.code ⟨?_, ?_⟩ (show m.first = 1 ∨ m.first = 2 from ok.toss h22) ?_ ?_ fun i hi => ?_
            · show 0 ≤ cond (Ab m (m.inns.length : Int) == 1) 0 m.pen1 ∧ cond (Ab m (m.inns.length : Int) == 1) 0 m.pen1 ≤ 1000000
              cases Ab m (m.inns.length : Int) == 1
              · exact pk.1
              · show (0 : Int) ≤ 0 ∧ (0 : Int) ≤ 1000000; decide
            · show 0 ≤ cond (Ab m (m.inns.length : Int) == 2) 0 m.pen2 ∧ cond (Ab m (m.inns.length : Int) == 2) 0 m.pen2 ≤ 1000000
              cases Ab m (m.inns.length : Int) == 2
              · exact pk.2
              · show (0 : Int) ≤ 0 ∧ (0 : Int) ≤ 1000000; decide
            · show ((m.inns ++ [_]).length : Int) ≤ _
              rw [List.length_append]
              simp only [List.length_cons, List.length_nil]
              show ((m.inns.length + 1 : Nat) : Int) ≤ 2 * m.rules.innings
              omega
            · show (m.follow && (!(m.rules.innings == 2) || iLt ((m.inns ++ [_]).length : Int) 2)) = false
              rw [List.length_append]
              cases hf : m.follow with
              | false => rfl
              | true =>
                rw [hf, Bool.true_and, Bool.or_eq_false_iff] at hfo
                rw [Bool.true_and, hfo.1, Bool.false_or]
                have := hfo.2
                simp only [iLt, decide_eq_false_iff_not] at this ⊢
                simp only [List.length_cons, List.length_nil]
                omega
            · have hi : i < (m.inns ++ [_]).length := hi
              rw [List.length_append] at hi
              have hx := fun t => TF m.inns t i hi
              show InnOk m.rules (inn (m.inns ++ [_]) i) ∧ (inn (m.inns ++ [_]) i).side = Ab m (i : Int) ∧ _
              rw [hx]
              by_cases e2 : i < m.inns.length
              · rw [if_pos e2]
                exact ⟨Ju.1 (ok.innv i e2).1, (ok.innv i e2).2, Vo hv i e2 (Or.inl (by rw [beq_iff_eq.1 h22]; rfl))⟩
              · have hi2 : i = m.inns.length := by simp at hi; omega
                rw [if_neg e2]
                refine ⟨ki, by rw [g3, hi2], ?_⟩
                have hn : lnx (m.inns ++ [T.1]) = m.inns.length := by
                  unfold lnx
                  rw [List.length_append]
                  simp only [List.length_cons, List.length_nil]
                  rw [BD (by omega) (by omega)]
                  omega
                have hz : inn (m.inns ++ [T.1]) (lnx (m.inns ++ [T.1])) = T.1 := by
                  rw [hn, TF _ _ _ (Nat.lt_succ_self _), if_neg (Nat.lt_irrefl _)]
                have hE2 : ((inn (m.inns ++ [T.1]) (lnx (m.inns ++ [T.1]))).ending == 0) = false := hE
                rw [hz] at hE2
                exact hE2
    | false =>
      rw [k2] at ha h3 hE
      cases k12 : e.kind == 12 with
      | true =>
        rw [k12] at ha h3
        cases hs : m.stage == 4 with
        | false => rw [hs] at ha; cases ha
        | true =>
          rw [hs] at ha h3
          cases hs2 : e.side == m.first with
          | false => rw [hs2] at ha; cases ha
          | true => rw [hs2] at h3; cases h3
      | false =>
        rw [k12] at ha h3 hE
        cases k16 : e.kind == 16 with
        | true => rw [k16] at h3; cases h3
        | false =>
          rw [k16] at ha h3 hE
          simp only [cond_false] at ha h3 hE ⊢
          cases hst : m.stage == 3 with
          | false => rw [hst] at ha; cases ha
          | true =>
            rw [hst] at ha h3 hE
            simp only [Bool.not_true, cond_false] at ha hE ⊢
            unfold TP at ha hE ⊢
            cases hq : (Av m.rules (Ax m) e).2 == 0 with
            | false => simp only [hq, Bool.not_false, cond_true] at ha; exact absurd ha Bool.false_ne_true
            | true =>
              simp only [hq, Bool.not_true, cond_false] at hE ⊢
              obtain ⟨lk, li⟩ := Wx hv mi hK hK2 hst hq
              have fin : ∀ (ys : List Inn) (p1 p2 : Int), Lk m.rules (lnx m.inns) m.inns ys → (0 ≤ p1 ∧ p1 ≤ 1000000) ∧ 0 ≤ p2 ∧ p2 ≤ 1000000 → ((inn ys (lnx ys)).ending == 0) = false → BM ⟨m.rules, 5, m.first, m.follow, ys, p1, p2, w, a, b⟩ = true := fun ys p1 p2 lk hp he => by
                refine cH (m := ⟨m.rules, 5, m.first, m.follow, ys, p1, p2, 0, 0, 0⟩) w a b ok.code hp (show m.first = 1 ∨ m.first = 2 from cF hv hst) ?_ ?_ fun i hi => ?_
                · show (ys.length : Int) ≤ _
                  rw [lk.len]
                  exact ok.most.2
                · show (m.follow && (!(m.rules.innings == 2) || iLt (ys.length : Int) 2)) = false
                  rw [lk.len]
                  exact hfo
                · have hi : i < ys.length := hi
                  rw [lk.len] at hi
                  obtain ⟨o1, o2, o3⟩ := lk.ok i hi
                  refine ⟨o1, o2.trans (ok.innv i hi).2, ?_⟩
                  show ((inn ys i).ending == 0) = false
                  by_cases e2 : i = lnx m.inns
                  · have : lnx ys = lnx m.inns := by unfold lnx; rw [lk.len]
                    rw [this, ← e2] at he
                    exact he
                  · rw [o3 e2]
                    exact Vo hv i hi (Or.inr e2)
              cases hcd : (e.kind == 13 && !(e.side == (Av m.rules (Ax m) e).1.side)) with
              | false =>
                rw [hcd] at hE
                exact fin _ _ _ lk pk hE
              | true =>
                rw [hcd] at hE
                simp only [cond_true] at hE ⊢
                unfold F4 at hE ⊢
                cases hw : H9 (m.inns.set (lnx m.inns) (Av m.rules (Ax m) e).1) e.side (m.inns.set (lnx m.inns) (Av m.rules (Ax m) e).1).length with
                | none =>
                  simp only [hw] at hE ⊢
                  refine fin _ _ _ lk ⟨?_, ?_⟩ hE
                  · cases e.side == 1
                    · exact pk.1
                    · show 0 ≤ IntKind.i64.wrap (m.pen1 + 5) ∧ IntKind.i64.wrap (m.pen1 + 5) ≤ 1000000
                      rw [BD (by omega) (by omega)]; omega
                  · cases e.side == 2
                    · exact pk.2
                    · show 0 ≤ IntKind.i64.wrap (m.pen2 + 5) ∧ IntKind.i64.wrap (m.pen2 + 5) ≤ 1000000
                      rw [BD (by omega) (by omega)]; omega
                | some k =>
                  simp only [hw] at hE ⊢
                  exact fin _ _ _ (lk.pen li (by omega) k) pk hE
end Go.Px
end
section
namespace Go.Px
set_option maxRecDepth 100000
theorem eB {m : Mat} {e : Ev} (ha : ((Ae m e).2 == 0) = true) (h5 : ((Ae m e).1.stage == 5) = true) : (Ae m e).1.wside = 0 := by
 unfold Ae at ha h5 ⊢
 cases k1 : e.kind == 1 with
 | true =>
  rw [k1] at ha h5
  cases hs : m.stage == 1 with
  | false => rw [hs] at ha; cases ha
  | true => rw [hs] at h5; cases h5
 | false =>
  rw [k1] at ha h5
  cases k2 : e.kind == 2 with
  | true =>
   rw [k2] at ha h5
   cases hs : m.stage == 2 with
   | false => rw [hs] at ha; cases ha
   | true =>
    rw [hs] at ha h5
    simp only [Bool.not_true, cond_false, cond_true] at ha h5
    unfold Q5 at ha h5
    cases hb : (BO m.rules (Ab m (m.inns.length : Int)) (Ch m (Ab m (m.inns.length : Int))) (cond (Ab m (m.inns.length : Int) == 2) m.pen2 m.pen1)).2 == 0 with
    | false => simp only [hb, Bool.not_false, cond_true] at ha; cases ha
    | true =>
     simp only [hb, Bool.not_true, cond_false] at ha h5
     cases ht : (Av m.rules (BO m.rules (Ab m (m.inns.length : Int)) (Ch m (Ab m (m.inns.length : Int))) (cond (Ab m (m.inns.length : Int) == 2) m.pen2 m.pen1)).1 e).2 == 0 with
     | false => simp only [ht, Bool.not_false, cond_true] at ha; exact absurd ha Bool.false_ne_true
     | true => simp only [ht, Bool.not_true, cond_false] at h5; cases h5
  | false =>
   rw [k2] at ha h5
   cases k12 : e.kind == 12 with
   | true =>
    rw [k12] at ha h5
    cases hs : m.stage == 4 with
    | false => rw [hs] at ha; cases ha
    | true =>
     rw [hs] at ha h5
     cases hs2 : e.side == m.first with
     | false => rw [hs2] at ha; cases ha
     | true => rw [hs2] at h5; cases h5
   | false =>
    rw [k12] at ha h5
    cases k16 : e.kind == 16 with
    | true => rfl
    | false =>
     rw [k16] at ha h5
     simp only [cond_false] at ha h5 ⊢
     cases hst : m.stage == 3 with
     | false => rw [hst] at ha; cases ha
     | true =>
      rw [hst] at ha h5
      have h3 := beq_iff_eq.1 hst
      simp only [Bool.not_true, cond_false] at ha h5
      unfold TP at ha h5
      cases hq : (Av m.rules (Ax m) e).2 == 0 with
      | false => simp only [hq, Bool.not_false, cond_true] at ha; exact absurd ha Bool.false_ne_true
      | true =>
       simp only [hq, Bool.not_true, cond_false] at h5
       have hx : ∀ x : Mat, x.stage = 3 → (x.stage == 5) = true → False := fun x h h' => by rw [h] at h'; cases h'
       cases hcd : (e.kind == 13 && !(e.side == (Av m.rules (Ax m) e).1.side)) with
       | false => rw [hcd] at h5; exact (hx _ h3 h5).elim
       | true =>
        rw [hcd] at h5
        refine (hx _ ?_ h5).elim
        show (F4 _ _).stage = 3
        unfold F4
        cases H9 (m.inns.set (lnx m.inns) (Av m.rules (Ax m) e).1) e.side (m.inns.set (lnx m.inns) (Av m.rules (Ax m) e).1).length <;> exact h3
def Dn (m : Mat) : Prop := (m.stage == 5) = true → (m.wside == 0) = false → BM m = true
theorem br {K : Int} {m : Mat} {e : Ev} (hacc : ((HM m e).2 == 0) = true) (mi : LI K m.inns) (h1 : m.pen1 ≤ 900000) (h2 : m.pen2 ≤ 900000) (hK : 1000000 ≤ K) (hK2 : K ≤ 900000000) : Dn (HM m e).1 := by
 intro h5 hw
 obtain ⟨hv, he, _, ha, hs⟩ := YW hacc
 rw [hs] at h5 hw ⊢
 unfold G5 at h5 hw ⊢
 cases hcl : ((Ae m e).1.stage == 3 && !((Ax (Ae m e).1).ending == 0)) with
 | false =>
  rw [hcl] at h5 hw
  have := eB ha h5
  rw [show (cond false (Js (Ae m e).1) (Ae m e).1).wside = (Ae m e).1.wside from rfl, this] at hw
  cases hw
 | true =>
  rw [hcl] at h5
  rw [Bool.and_eq_true, Bool.not_eq_true'] at hcl
  simp only [cond_true] at h5 ⊢
  have fin := eU hv mi h1 h2 hK hK2 ha hcl.1 hcl.2
  unfold Js at h5 ⊢
  dsimp only at h5 ⊢
  cases hc1 : (((Ae m e).1.inns.length : Int) == IntKind.i64.wrap (2 * (Ae m e).1.rules.innings) || (((Ae m e).1.inns.length : Int) == 3 && iLt (BN (Ae m e).1 (Ax (Ae m e).1).side) (BN (Ae m e).1 (CH (Ax (Ae m e).1).side)))) with
  | true => exact fin _ _ _
  | false =>
   rw [hc1] at h5
   simp only [cond_false] at h5
   cases hc2 : (((Ae m e).1.inns.length : Int) == 2 && iLt 0 (Ae m e).1.rules.followon && iLe (Ae m e).1.rules.followon (IntKind.i64.wrap (BN (Ae m e).1 (Ae m e).1.first - BN (Ae m e).1 (CH (Ae m e).1.first)))) with
   | true => rw [hc2] at h5; cases h5
   | false => rw [hc2] at h5; cases h5
theorem ZB (L : Rows) : ∀ (k i : Nat) (m : Mat) (K P : Int), LI K m.inns → m.pen1 ≤ P → m.pen2 ≤ P → 1000000 ≤ K → K + 200 * (k : Int) ≤ 900000000 → P + 5 * (k : Int) ≤ 900000 → Dn m → ((DP L k i m).2.2 == 0) = true → Dn (DP L k i m).1
 | 0, _, _, _, _, _, _, _, _, _, _, h, _ => h
 | k + 1, i, m, K, P, mi, h1, h2, hK, hK2, hP, hd, ha => by
  unfold DP at ha ⊢
  cases hq : (CX i m (evR L i)).2 == 0 with
  | false => rw [hq] at ha; exact absurd (show ((CX i m (evR L i)).2 == 0) = true from ha) (by rw [hq]; decide)
  | true =>
   rw [hq] at ha
   simp only [Bool.not_true, cond_false] at ha ⊢
   have e1 := (f9 hq).1
   have hs : ((HM m (evR L i)).2 == 0) = true := by rw [← e1]; exact hq
   obtain ⟨hv, he, _, hp, hx⟩ := YW hs
   obtain ⟨g1, g2, g3⟩ := fX hv mi h1 h2 hK (by omega) hp
   have cf := br hs mi (by omega) (by omega) hK (by omega)
   have ck := Va (Ae m (evR L i)).1
   have cp : (G5 (Ae m (evR L i)).1).pen1 = (Ae m (evR L i)).1.pen1 ∧ (G5 (Ae m (evR L i)).1).pen2 = (Ae m (evR L i)).1.pen2 := by
    unfold G5
    cases ((Ae m (evR L i)).1.stage == 3 && !((Ax (Ae m (evR L i)).1).ending == 0)) with
    | false => exact ⟨rfl, rfl⟩
    | true =>
     simp only [cond_true]
     unfold Js
     dsimp only
     cases (((Ae m (evR L i)).1.inns.length : Int) == IntKind.i64.wrap (2 * (Ae m (evR L i)).1.rules.innings) || (((Ae m (evR L i)).1.inns.length : Int) == 3 && iLt (BN (Ae m (evR L i)).1 (Ax (Ae m (evR L i)).1).side) (BN (Ae m (evR L i)).1 (CH (Ax (Ae m (evR L i)).1).side)))) with
     | true => exact ⟨rfl, rfl⟩
     | false =>
      cases (((Ae m (evR L i)).1.inns.length : Int) == 2 && iLt 0 (Ae m (evR L i)).1.rules.followon && iLe (Ae m (evR L i)).1.rules.followon (IntKind.i64.wrap (BN (Ae m (evR L i)).1 (Ae m (evR L i)).1.first - BN (Ae m (evR L i)).1 (CH (Ae m (evR L i)).1.first)))) <;> exact ⟨rfl, rfl⟩
   refine ZB L k (i + 1) (CX i m (evR L i)).1 (K + 200) (P + 5) ?_ ?_ ?_ (by omega) (by omega) (by omega) ?_ ha
   ·rw [e1, hx, ck.2]; exact g1
   ·rw [e1, hx, cp.1]; exact g2
   ·rw [e1, hx, cp.2]; exact g3
   ·rw [e1]; exact cf
theorem fO {r : Rul} {n : Int} {L : Rows} (hl : L.length ≤ 1000) (ha : ((Cq r n L).2.2 == 0) = true) : Dn (Cq r n L).1 := by
 unfold Cq at ha ⊢
 cases h1 : (BE r).2 == 0 with
 | false => rw [h1] at ha; cases ha
 | true =>
  cases h2 : (Bt (BE r).1 n).2 == 0 with
  | false => rw [h1, h2] at ha; cases ha
  | true =>
   rw [h1, h2] at ha
   simp only [Bool.not_true, cond_false] at ha ⊢
   have hm : (Bt (BE r).1 n).1.inns = [] ∧ (Bt (BE r).1 n).1.pen1 = 0 ∧ (Bt (BE r).1 n).1.pen2 = 0 ∧ (Bt (BE r).1 n).1.wside = 0 := by
    unfold Bt
    cases Ap (BE r).1 == 0
    ·exact ⟨rfl, rfl, rfl, rfl⟩
    ·cases (!(n == 1) && !(n == 2)) <;> exact ⟨rfl, rfl, rfl, rfl⟩
   refine ZB L L.length 0 _ 1000000 0 ?_ (by rw [hm.2.1]; decide) (by rw [hm.2.2.1]; decide) (by decide) (by omega) (by omega) ?_ ha
   ·rw [hm.1]; exact fun i hi => absurd hi (Nat.not_lt_zero i)
   ·intro _ h; rw [hm.2.2.2] at h; cases h
theorem eZ {r : Rul} {f : Int} {L : Rows} (hf : f = 1 ∨ f = 2) : aq r f [L] = cond (!(Ap r == 0)) (0, 0, Ap r) (cond (!((Cq r f L).2.2 == 0)) (0, 0, 10) (cond (!((Cq r f L).1.stage == 5) || (Cq r f L).1.win == 6) (0, 0, 11) (cond ((Cq r f L).1.wside == 0) (0, 0, 6) ((Cq r f L).1.wside, 1, 0)))) := by
 have hs : TH f 0 = f := rfl
 have hn : (!(f == 1) && !(f == 2)) = false := by rcases hf with h | h <;> subst h <;> rfl
 have h8 : iLt 8 (([L] : List Rows).length : Int) = false := rfl
 have hz : iLt ((0 + 1 : Nat) : Int) (([L] : List Rows).length : Int) = false := rfl
 have hr : (BE r).2 = cond (!(Ap r == 0)) (Ap r) 0 := by unfold BE; cases Ap r == 0 <;> rfl
 have hd : Ul r f [L] 0 = cond (!((Cq r f L).2.2 == 0)) (some (0, 0, 10)) (cond (!((Cq r f L).1.stage == 5) || (Cq r f L).1.win == 6) (some (0, 0, 11)) (cond ((Cq r f L).1.wside == 0) none (some ((Cq r f L).1.wside, 1, 0)))) := by
  unfold Ul
  rw [hs, hz]
  rfl
 unfold aq
 rw [hr, hn, h8]
 cases hc : Ap r == 0 with
 | false => simp only [Bool.not_false, cond_true, hc]
 | true =>
  simp only [Bool.not_true, cond_false]
  show (O3 (Ul r f [L]) 1 0).getD (0, 0, 6) = _
  unfold O3 O3
  rw [hd]
  cases (Cq r f L).2.2 == 0 <;> try rfl
  cases (!((Cq r f L).1.stage == 5) || (Cq r f L).1.win == 6) <;> try rfl
  cases (Cq r f L).1.wside == 0 <;> rfl
set_option maxHeartbeats 4000000 in
theorem QX {N : Nat} {r1 r2 r3 r4 r5 r6 r7 r9 r10 r11 r12 : Int} {r8 : Bool} {r0 : ByteArray} {r13 : Rows} {b : Bool} {L : Rows} (ha : I7 N [] = some [.bool true]) (hN : 2097152 < N) (hs : r0.size ≤ 1048576) : CU N [.str r0, .int r1, .int r2, .int r3, .int r4, .int r5, .int r6, .int r7, .bool r8, .int r9, .int r10, .int r11, .int r12, .rows r13, .bool b, .rows L] = some [.bool true] := by
 show CZ (std (Af N) N) (xOf _) = _
 have nn := Yu (⟨r0, r1, r2, r3, r4, r5, r6, r7, r8, r9, r10, r11, r12, r13⟩ : Rul) hs
 have l : (cut L 40).length ≤ 1048576 := Nat.le_trans (cA L 40) (show 40 ≤ 1048576 by omega)
 have l1 : (cut L 40).length ≤ 1000 := Nat.le_trans (cA L 40) (show 40 ≤ 1000 by omega)
 have cL : List.drop (Int.toNat 0) (List.take (cond (iLt 40 (L.length : Int)) 40 (L.length : Int)).toNat L) = cut L 40 := rfl
 have hx : ∀ i, (([cut L 40] : List Rows).getD i []).length ≤ 1048576 := fun i => by
  cases i with
  | zero => exact l
  | succ i => exact Nat.zero_le _
 have eL : [[PV.rows (cut L 40)]] = Qy [cut L 40] := rfl
 obtain ⟨f, hf, hc⟩ : ∃ f : Int, (f = 1 ∨ f = 2) ∧ (cond b (some [PV.int 2]) (some [PV.int 1])) = some [.int f] := by
  cases b
  ·exact ⟨1, Or.inl rfl, rfl⟩
  ·exact ⟨2, Or.inr rfl, rfl⟩
 have k := fu (H5 (⟨r0, r1, r2, r3, r4, r5, r6, r7, r8, r9, r10, r11, r12, r13⟩ : Rul)) f (cut L 40)
 have kl := Nat.le_trans k.len (show 5 ≤ 1000000 by omega)
 simp only [CZ, J6, I5, HJ, HC, I6, Iz, std, xOf, PXb, ha, XS, Rul.ls, al (show (0 : Int) ≤ 40 by omega), cL, hc, eL]
 have df := eZ (r := H5 (⟨r0, r1, r2, r3, r4, r5, r6, r7, r8, r9, r10, r11, r12, r13⟩ : Rul)) (L := cut L 40) hf
 have sf := fO (r := H5 (⟨r0, r1, r2, r3, r4, r5, r6, r7, r8, r9, r10, r11, r12, r13⟩ : Rul)) (n := f) (L := cut L 40) l1
 have sl := eV (H5 (⟨r0, r1, r2, r3, r4, r5, r6, r7, r8, r9, r10, r11, r12, r13⟩ : Rul)) f (cut L 40)
 simp only [PXb, PXc, Nat.reduceAdd, MS hN nn l, SM hN nn hx, CP hN nn, Xr, YU, df, sl, Mj k.fit hN kl k.name]
 generalize Cq (H5 (⟨r0, r1, r2, r3, r4, r5, r6, r7, r8, r9, r10, r11, r12, r13⟩ : Rul)) f (cut L 40) = M at *
 generalize Ap (H5 (⟨r0, r1, r2, r3, r4, r5, r6, r7, r8, r9, r10, r11, r12, r13⟩ : Rul)) = c at *
 cases h1 : c == 0
 case false => simp only [PXb, beq_self_eq_true]
 cases h2 : M.2.2 == 0
 case false => rfl
 cases h3 : (!(M.1.stage == 5) || M.1.win == 6)
 case true => simp only [PXb, h3] <;> rfl
 cases h4 : M.1.wside == 0
 case true => rfl
 have v := sf h2 (by rw [Bool.or_eq_false_iff, Bool.not_eq_false'] at h3; exact h3.1) h4
 simp only [PXb, v, beq_self_eq_true]
end Go.Px
end
