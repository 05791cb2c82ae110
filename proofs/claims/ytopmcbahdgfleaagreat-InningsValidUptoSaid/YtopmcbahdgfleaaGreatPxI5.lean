/-
The laws of an innings: the batters of both sides agree.
-/
import Derived.Test.YtopmcbahdgfleaaGreatPxI4
namespace Go.Px
set_option linter.unusedVariables false
set_option linter.unusedSimpArgs false
set_option maxRecDepth 100000

theorem two_val (s n : Int) : two s n = cond (!(s == 0)) 1 0 + cond (!(n == 0)) 1 0 := by
  unfold two
  cases s == 0 <;> cases n == 0 <;> rfl
theorem two_cnt {s n : Int} {len : Nat} (h1 : 0 ≤ s ∧ s ≤ (len : Int)) (h2 : 0 ≤ n ∧ n ≤ (len : Int)) (hd : (s == n && !(s == 0)) = false) : two s n = cntR (inAt s n) len := by
  have hs : iLe s (len : Int) = true := by simp only [iLe, decide_eq_true_eq]; omega
  have hn : iLe n (len : Int) = true := by simp only [iLe, decide_eq_true_eq]; omega
  unfold inAt
  rw [cnt_or (p := fun i => s == (i : Int) + 1) (q := fun i => n == (i : Int) + 1) len (fun j _ hp => by
    have e1 : s = (j : Int) + 1 := by simpa using hp
    show (n == (j : Int) + 1) = false
    rw [beq_eq_false_iff_ne]
    intro e2
    have e3 : (s == n) = true := by rw [beq_iff_eq]; omega
    have e4 : (s == 0) = false := by rw [beq_eq_false_iff_ne]; omega
    rw [e3, e4] at hd; cases hd), cnt_at s len h1.1, cnt_at n len h2.1, hs, hn, Bool.and_true, Bool.and_true, two_val]
theorem lt_flip (x : Int) : iLt 0 x = !iLt x 1 := by
  unfold iLt
  rw [Bool.eq_iff_iff]
  simp only [decide_eq_true_eq, Bool.not_eq_true', decide_eq_false_iff_not]
  omega
theorem bat_main {L : Rows} {s n : Int} (h1 : 0 ≤ s ∧ s ≤ (L.length : Int)) (h2 : 0 ≤ n ∧ n ≤ (L.length : Int)) (hd : (s == n && !(s == 0)) = false) :
    (!anyR (bad54 L s n) L.length 0 && two s n == ins L) = !anyR (bad60 L s n) L.length 0 := by
  have h2c := two_cnt h1 h2 hd
  rw [Bool.eq_iff_iff]
  simp only [Bool.and_eq_true, Bool.not_eq_true', anyR_false, beq_iff_eq]
  constructor
  · intro ⟨ha, hb⟩ j _ hj
    have hm : ∀ j, j < L.length → pIs L 1 j = true → inAt s n j = true := fun j hj hp => by
      have := ha j (Nat.zero_le _) (by omega)
      unfold bad54 at this
      rw [hp] at this
      simp only [Bool.or_eq_false_iff, Bool.true_and, Bool.not_eq_false'] at this
      exact this.2
    have he := cnt_eq L.length hm (by rw [← h2c, hb]; rfl) j (by omega)
    have := ha j (Nat.zero_le _) hj
    unfold bad54 at this
    unfold bad60
    rw [Bool.or_eq_false_iff] at this ⊢
    exact ⟨this.1, by rw [he]; simp⟩
  · intro ha
    have hm : ∀ j, j < L.length → pIs L 1 j = inAt s n j := fun j hj => by
      have := ha j (Nat.zero_le _) (by omega)
      unfold bad60 at this
      rw [Bool.or_eq_false_iff] at this
      simpa using this.2
    refine ⟨fun j h0 hj => ?_, ?_⟩
    · have := ha j h0 hj
      unfold bad60 at this
      unfold bad54
      rw [Bool.or_eq_false_iff] at this ⊢
      refine ⟨this.1, ?_⟩
      rw [hm j (by omega)]
      cases inAt s n j <;> rfl
    · rw [h2c]
      exact (cnt_congr L.length hm).symm
theorem bat_eq (L : Rows) (s n wk k : Int) (hk : (L.length : Int) = k) : bat54 L s n wk k = (btw s 0 k && btw n 0 k && bat60 L s n wk) := by
  subst hk
  unfold bat54 bat60
  cases hs : btw s 0 (L.length : Int) with
  | false => simp only [Bool.false_and, Bool.and_false]
  | true =>
    cases hn : btw n 0 (L.length : Int) with
    | false => simp only [Bool.false_and, Bool.and_false]
    | true =>
      have h1 : 0 ≤ s ∧ s ≤ (L.length : Int) := by simpa [btw, iLe] using hs
      have h2 : 0 ≤ n ∧ n ≤ (L.length : Int) := by simpa [btw, iLe] using hn
      simp only [Bool.true_and]
      cases hd : (s == n && !(s == 0)) with
      | true =>
        have : (!(s == 0) && s == n) = true := by rw [Bool.and_comm]; exact hd
        rw [this]
        simp only [Bool.or_true, Bool.not_true, Bool.false_and, Bool.and_false]
      | false =>
        have : (!(s == 0) && s == n) = false := by rw [Bool.and_comm]; exact hd
        rw [this, ← bat_main h1 h2 hd]
        simp only [Bool.or_false, Bool.not_false, Bool.true_and]
        rw [show (wk == outs L) = (outs L == wk) from BEq.comm]
        cases hA : anyR (bad54 L s n) L.length 0 with
        | true => rfl
        | false =>
          cases hB : two s n == ins L with
          | false => rfl
          | true =>
            rw [beq_iff_eq.1 hB, lt_flip]
            simp only [Bool.true_and, Bool.not_false, Bool.not_and]
end Go.Px
