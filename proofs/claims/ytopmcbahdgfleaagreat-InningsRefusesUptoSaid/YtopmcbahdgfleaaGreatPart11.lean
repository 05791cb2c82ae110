/-
The laws of an innings: every accepted event keeps a state valid; InningsRefuses.
The laws of an innings: InningsRefuses.
-/
import Derived.Test.YtopmcbahdgfleaaGreatPart10
section
namespace Go.Px
set_option linter.unusedVariables false
set_option linter.unusedSimpArgs false
set_option maxRecDepth 100000

theorem c_law {b : Bool} {x y : Inn × Int} {n : Int} (h : ((cond b x y).2 == 0) = true) (hx : (x.2 == 0) = false) : b = false ∧ (y.2 == 0) = true := by
  cases b with
  | true => rw [cond_true, hx] at h; cases h
  | false => exact ⟨rfl, h⟩
theorem take_keep {r : Rul} {s : Inn} {p : Int} (h : InnOk r s) (hl : ((takeS r s p).2 == 0) = true) : InnOk r (takeS r s p).1 := by
  have hl2 : (mayBowl r s p == 0) = true := hl
  unfold takeS
  rw [hl2]
  have hp : inR p s.bowled.length = true := by
    unfold mayBowl at hl2
    cases hp : inR p s.bowled.length with
    | true => rfl
    | false => rw [hp] at hl2; cases hl2
  have hld := h.ld
  simp only [inR, iLe, Bool.and_eq_true, decide_eq_true_eq] at hp
  have hb : 0 ≤ p ∧ p ≤ r.side := by omega
  exact { h with bow := hb }
theorem outside_keep {r : Rul} {s : Inn} {n : Int} (h : InnOk r s) (hl : ((outsideS s n).2 == 0) = true) : InnOk r (outsideS s n).1 := by
  unfold outsideS at hl ⊢
  cases hb : (iLt n 0 || iLt (IntKind.i64.wrap ((s.subs.length : Int) - 2)) n) with
  | true => rw [hb] at hl; cases hl
  | false =>
    have hsd := side_le h
    have hlz := h.lz
    rw [Bool.or_eq_false_iff, wrap64 (by omega) (by omega)] at hb
    simp only [iLt, decide_eq_false_iff_not] at hb
    have hn : NumOk n := ⟨by omega, by omega⟩
    exact { h with outside := hn }
theorem keeper_keep {r : Rul} {s : Inn} {p : Int} (h : InnOk r s) (hl : ((keeperS s p).2 == 0) = true) : InnOk r (keeperS s p).1 := by
  unfold keeperS at hl ⊢
  cases hp : inR p s.subs.length with
  | false => rw [hp] at hl; cases hl
  | true =>
    cases h2 : replS s p with
    | true => rw [hp, h2] at hl; cases hl
    | false =>
      cases h3 : (p == s.bowler || p == s.keeper) with
      | true => rw [hp, h2, h3] at hl; cases hl
      | false =>
        have hlz := h.lz
        simp only [inR, iLe, Bool.and_eq_true, decide_eq_true_eq] at hp
        have hb : 0 ≤ p ∧ p ≤ r.side := by omega
        exact { h with kee := hb }
theorem subst_keep {r : Rul} {s : Inn} {p : Int} {on : Bool} (h : InnOk r s) (hl : ((substS s p on).2 == 0) = true) : InnOk r (substS s p on).1 := by
  unfold substS at hl ⊢
  cases hp : inR p s.subs.length with
  | false => rw [hp] at hl; cases hl
  | true =>
    cases h2 : replS s p == on with
    | true => rw [hp, h2] at hl; cases hl
    | false =>
      have hsd := side_le h
      have hlz := h.lz
      have l1 : ((setB s.subs p on).length : Int) = r.side := by rw [setB_len]; exact hlz
      have hk := h.kee
      have hb := h.bow
      have k1 : 0 ≤ (cond (on && s.keeper == p) 0 s.keeper : Int) ∧ (cond (on && s.keeper == p) 0 s.keeper : Int) ≤ r.side := by cases (on && s.keeper == p) <;> simp only [cond_true, cond_false] <;> omega
      have k2 : 0 ≤ (cond (on && s.bowler == p) 0 s.bowler : Int) ∧ (cond (on && s.bowler == p) 0 s.bowler : Int) ≤ r.side := by cases (on && s.bowler == p) <;> simp only [cond_true, cond_false] <;> omega
      exact { h with lz := l1, kee := k1, bow := k2 }
theorem newBall_keep {r : Rul} {s : Inn} (h : InnOk r s) (hl : ((newBallS r s).2 == 0) = true) : InnOk r (newBallS r s).1 := by
  unfold newBallS at hl ⊢
  cases hb : (!(codeS r == 0) || r.newball == 0 || iLt s.ballage (IntKind.i64.wrap (r.newball * r.balls))) with
  | true => rw [hb] at hl; cases hl
  | false =>
    have hz : NumOk 0 := ⟨by omega, by omega⟩
    exact { h with ballage := hz }
theorem declare_keep {r : Rul} {s : Inn} {n : Int} (h : InnOk r s) (hl : ((declareS r s n).2 == 0) = true) : InnOk r (declareS r s n).1 := by
  unfold declareS at hl ⊢
  cases h1 : n == s.side with
  | false => rw [h1] at hl; cases hl
  | true =>
    cases h2 : r.overs == 0 with
    | false => rw [h1, h2] at hl; cases hl
    | true =>
      have h4 : (4 : Int) ≤ 5 := by omega
      exact { h with ending := h4 }
theorem pen_keep {r : Rul} {s : Inn} (h : InnOk r s) (sm : Small s) : InnOk r (penS s) := by
  have m1 := num_add h.runs sm.runs (y := 5) (by omega) (by omega)
  have m2 := num_add h.pens sm.pens (y := 5) (by omega) (by omega)
  unfold penS
  rw [m1.1, m2.1]
  exact { h with runs := m1.2, pens := m2.2 }
theorem penalty_keep {r : Rul} {s : Inn} {n m : Int} (h : InnOk r s) (sm : Small s) (hl : ((penaltyS s n m).2 == 0) = true) : InnOk r (penaltyS s n m).1 := by
  unfold penaltyS at hl ⊢
  cases h1 : m == 5 with
  | false => rw [h1] at hl; cases hl
  | true =>
    cases h2 : n == s.side with
    | true => exact pen_keep h sm
    | false =>
      have m1 := num_add h.target sm.target (y := 5) (by omega) (by omega)
      have ht : NumOk (cond (iLt 0 s.target) (IntKind.i64.wrap (s.target + 5)) s.target) := by
        rw [m1.1]
        cases iLt 0 s.target with
        | true => exact m1.2
        | false => exact h.target
      exact { h with target := ht }
theorem review_keep {r : Rul} {s : Inn} {n : Int} {b : Bool} (h : InnOk r s) (sm : Small s) (hl : ((reviewS r s n b).2 == 0) = true) : InnOk r (reviewS r s n b).1 := by
  unfold reviewS at hl ⊢
  cases h1 : (!s.fresh || iLe r.reviews (cond (n == 2) s.rev2 s.rev1)) with
  | true => rw [h1] at hl; cases hl
  | false =>
    cases b with
    | true => exact h
    | false =>
      have m1 : NumOk (cond (n == 1) (inc s.rev1) s.rev1) := by
        cases n == 1 with
        | true => exact num_inc h.rev1 sm.rev1
        | false => exact h.rev1
      have m2 : NumOk (cond (n == 2) (inc s.rev2) s.rev2) := by
        cases n == 2 with
        | true => exact num_inc h.rev2 sm.rev2
        | false => exact h.rev2
      exact { h with rev1 := m1, rev2 := m2 }
theorem revise_keep {r : Rul} {s : Inn} {n m : Int} (h : InnOk r s) (hn : n ≤ 100000) (hm : 0 ≤ m) (hl : ((reviseS r s n m).2 == 0) = true) : InnOk r (reviseS r s n m).1 := by
  unfold reviseS at hl ⊢
  cases h1 : (r.overs == 0 || (n == 0 && m == 0)) with
  | true => rw [h1] at hl; cases hl
  | false =>
    cases h2 : (iLt 0 n && (s.target == 0 || iLe n s.runs)) with
    | true => rw [h1, h2] at hl; cases hl
    | false =>
      cases h3 : (iLt 0 m && (iLt r.overs m || iLt (IntKind.i64.wrap (m * r.balls)) (ballsR r.balls s.complete s.inover))) with
      | true => rw [h1, h2, h3] at hl; cases hl
      | false =>
        rw [Bool.or_eq_false_iff] at h1
        have m1 : NumOk (cond (iLt 0 n) n s.target) := by
          cases hq : iLt 0 n with
          | true => simp only [iLt, decide_eq_true_eq] at hq; exact ⟨by show 0 ≤ n; omega, by show n ≤ _; omega⟩
          | false => exact h.target
        have m2 : oversOk r.overs (cond (iLt 0 m) m s.overs) = true := by
          cases hq : iLt 0 m with
          | false => exact h.ov
          | true =>
            rw [hq, Bool.true_and, Bool.or_eq_false_iff] at h3
            have h4 := h3.1
            simp only [iLt, decide_eq_true_eq, decide_eq_false_iff_not] at hq h4
            unfold oversOk
            rw [h1.1]
            exact btw_mk ⟨by show 1 ≤ m; omega, by show m ≤ _; omega⟩
        exact { h with target := m1, ov := m2 }
theorem end_le (r : Rul) (s : Inn) : endS r s ≤ 5 := by
  unfold endS endR
  cases (!validS r s) with
  | true => simp only [cond_true]; omega
  | false =>
    cases (iLt 0 s.target && iLe s.target s.runs) with
    | true => simp only [cond_true, cond_false]; omega
    | false =>
      cases (shortR s.batters s.striker s.other && ((leftR s.batters s.batters.length).length : Int) == 0) with
      | true => simp only [cond_true, cond_false]; omega
      | false => cases (iLt 0 s.overs && iLe s.overs s.complete) <;> simp only [cond_true, cond_false] <;> omega
theorem finish_keep {r : Rul} {s : Inn} {b : Bool} (h : InnOk r s) : InnOk r (finishS r s b) := by
  have he : (cond (s.ending == 0) (endS r (freshS s b)) s.ending : Int) ≤ 5 := by
    cases s.ending == 0 with
    | true => exact end_le _ _
    | false => exact h.ending
  exact { h with ending := he }
theorem ev_revise {e : Ev} (h : (evS e == 0) = true) (hk : e.kind = 15) : e.runs ≤ 100000 ∧ 0 ≤ e.overs := by
  have h0 := ev_kind h
  unfold evS at h
  rw [h0] at h
  cases h1 : err1 e with
  | true => rw [h1] at h; cases h
  | false =>
    cases h2 : err2 e with
    | true => rw [h1, h2] at h; cases h
    | false =>
      unfold err2 at h2
      rw [Bool.or_eq_false_iff, Bool.or_eq_false_iff, Bool.or_eq_false_iff, Bool.or_eq_false_iff] at h2
      have h3 := h2.2.2.2.1
      have h4 := h2.2.2.2.2
      rw [hk, show uR 15 = true from rfl, Bool.and_true] at h3
      rw [hk, show uV 15 = true from rfl, Bool.and_true] at h4
      rw [Bool.not_eq_false', btw_iff] at h3 h4
      exact ⟨h3.2, h4.1⟩
/-- An accepted event keeps a state valid. -/
theorem step_keep {r : Rul} {s : Inn} {e : Ev} (hl : ((stepS r s e).2 == 0) = true) (hs : Shp s.batters) (sm : Small s) : InnOk r (stepS r s e).1 := by
  obtain ⟨hv, he, hn, hw, hp, hst⟩ := step_ok hl
  have h := valid_iff.1 hv
  rw [hst]
  refine finish_keep ?_
  have hr := ev_revise he
  have hbg : (e.kind == 2) = false → begunR s.batters = true := begun_of hw
  have hk := kinds16 (ev_kind he)
  unfold noWay at hw
  unfold performS at hp ⊢
  rcases hk with hk | hk | hk | hk | hk | hk | hk | hk | hk | hk | hk | hk | hk | hk | hk | hk <;> rw [hk] at hp hw hbg ⊢
  · cases hw
  · exact open_keep h hs hp
  · exact take_keep h hp
  · obtain ⟨q1, q2⟩ := ball_ok (r := r) (s := s) (d := e.ball) hp
    have := hit_keep h hs sm (hbg rfl) q1
    rw [← q2] at this
    exact this
  · cases hy : e.yes with
    | true => rw [hy] at hp; exact timeOut_keep h hs hp
    | false => rw [hy] at hp; exact enter_keep h hs hp
  · exact retire_keep h hs hp
  · exact outside_keep h hp
  · exact keeper_keep h hp
  · exact subst_keep h hp
  · exact newBall_keep h hp
  · exact declare_keep h hp
  · cases hw
  · exact penalty_keep h sm hp
  · exact review_keep h sm hp
  · exact revise_keep h (hr hk).1 (hr hk).2 hp
  · cases hw
end Go.Px
end

section
namespace Go.Px
set_option linter.unusedVariables false
set_option linter.unusedSimpArgs false
set_option maxRecDepth 100000

def numsB (s : Inn) : Rows := [[.int s.target], [.int s.runs], [.int s.wides], [.int s.noballs], [.int s.byes], [.int s.legbyes], [.int s.pens], [.int s.complete], [.int s.ballage], [.int s.rev1], [.int s.rev2]]
def bigS (s : Inn) : Bool := anyL (fun v => iLt 999999900 v) (numsB s ++ s.bowled)
theorem L_w14_big {N : Nat} {s0 s1 s2 s3 s4 s5 s6 s7 s8 s9 s10 s11 s12 s13 s15 s21 s22 s23 s25 s26 s27 : Int} {s18 s20 : Bool} {s14 s16 s17 s19 s24 : Rows} (hN : 2097152 < N) (hl : s19.length ≤ 1048576) : c_w14_big N [.int s0, .int s1, .int s2, .int s3, .int s4, .int s5, .int s6, .int s7, .int s8, .int s9, .int s10, .int s11, .int s12, .int s13, .rows s14, .int s15, .rows s16, .rows s17, .bool s18, .rows s19, .bool s20, .int s21, .int s22, .int s23, .rows s24, .int s25, .int s26, .int s27] = some [.bool (bigS (⟨s0, s1, s2, s3, s4, s5, s6, s7, s8, s9, s10, s11, s12, s13, s14, s15, s16, s17, s18, s19, s20, s21, s22, s23, s24, s25, s26, s27⟩ : Inn))] := by
  show t_w14_big (std (env_w14_big N) N) (xOf _) = _
  simp only [t_w14_big, std, xOf, PXb]
  unfold bigS
  change (cond (iSm ((numsB (⟨s0, s1, s2, s3, s4, s5, s6, s7, s8, s9, s10, s11, s12, s13, s14, s15, s16, s17, s18, s19, s20, s21, s22, s23, s24, s25, s26, s27⟩ : Inn) ++ s19).length : Int) 8) ((iter (fun self c => cond (iLt (pvI (cellAt c 0)) ((numsB (⟨s0, s1, s2, s3, s4, s5, s6, s7, s8, s9, s10, s11, s12, s13, s14, s15, s16, s17, s18, s19, s20, s21, s22, s23, s24, s25, s26, s27⟩ : Inn) ++ s19).length : Int)) (cond (iIn (pvI (cellAt c 0)) ((numsB (⟨s0, s1, s2, s3, s4, s5, s6, s7, s8, s9, s10, s11, s12, s13, s14, s15, s16, s17, s18, s19, s20, s21, s22, s23, s24, s25, s26, s27⟩ : Inn) ++ s19).length : Int)) (cond (iLt 999999900 (pvI (pvAt (numsB (⟨s0, s1, s2, s3, s4, s5, s6, s7, s8, s9, s10, s11, s12, s13, s14, s15, s16, s17, s18, s19, s20, s21, s22, s23, s24, s25, s26, s27⟩ : Inn) ++ s19) (pvI (cellAt c 0)).toNat 0))) (some [PV.int 0, PV.bool true]) (self [Leaf.int (IntKind.i64.wrap (pvI (cellAt c 0) + 1))])) none) (some [PV.int 1])) N [PV.int 0]).bind _) none) = _
  generalize hM : numsB (⟨s0, s1, s2, s3, s4, s5, s6, s7, s8, s9, s10, s11, s12, s13, s14, s15, s16, s17, s18, s19, s20, s21, s22, s23, s24, s25, s26, s27⟩ : Inn) ++ s19 = M
  have hM2 : M.length ≤ 1048600 := by rw [← hM]; simp [numsB]; omega
  rw [sm_ok (n := M.length) (by omega) (by omega)]
  simp only [cond_true]
  refine bind_loop (iter_any (len := M.length) (fun i => iLt 999999900 (atI M i 0)) [.bool true] ?_ ?_ N (by omega)) ?_
  · intro self
    simp only [PXb, PXc, PXn, bind_c, ge_len]
  · intro i self hi
    simp only [PXb, PXc, PXn, bind_c, wrap_nat (show i ≤ 1099511627776 by omega), lt_len hi, in_range hi, atI_def]
  · unfold anyL
    cases anyR (fun i => iLt 999999900 (atI M i 0)) M.length 0 <;> rfl
theorem not_big {s : Inn} (h : bigS s = false) : Small s := by
  unfold bigS at h
  rw [anyL_app, Bool.or_eq_false_iff] at h
  obtain ⟨h1, h2⟩ := h
  rw [anyL_any] at h1
  simp only [numsB, List.any_cons, List.any_nil, Bool.or_false, cell_zero, pvI_int, Bool.or_eq_false_iff] at h1
  obtain ⟨a1, a2, a3, a4, a5, a6, a7, a8, a9, a10, a11⟩ := h1
  have q : ∀ x : Int, iLt 999999900 x = false → x ≤ 999999900 := fun x hx => by simp only [iLt, decide_eq_false_iff_not] at hx; omega
  refine ⟨q _ a1, q _ a2, q _ a3, q _ a4, q _ a5, q _ a6, q _ a7, q _ a8, q _ a9, q _ a10, q _ a11, fun j hj => ?_⟩
  have := anyR_false.1 h2 j (by omega) (by omega)
  simp only [iLt, decide_eq_false_iff_not] at this
  omega
def bmpI (k : IntKind) (L : Rows) : Nat → Rows
  | 0 => L
  | i + 1 => (bmpI k L i).set i (putRow (rowAt (bmpI k L i) i) 0 [.int (k.wrap (pvI (pvAt (bmpI k L i) i 0) + 1))])
theorem bmpI_len (k : IntKind) (L : Rows) : ∀ i, (bmpI k L i).length = L.length
  | 0 => rfl
  | i + 1 => by unfold bmpI; rw [List.length_set]; exact bmpI_len k L i
def bmpB (L : Rows) : Nat → Rows
  | 0 => L
  | i + 1 => (bmpB L i).set i (putRow (rowAt (bmpB L i) i) 0 [.bool (!pvB (pvAt (bmpB L i) i 0))])
theorem bmpB_len (L : Rows) : ∀ i, (bmpB L i).length = L.length
  | 0 => rfl
  | i + 1 => by unfold bmpB; rw [List.length_set]; exact bmpB_len L i
set_option maxHeartbeats 4000000 in
theorem L_w14_shared {N : Nat} {s0 s1 s2 s3 s4 s5 s6 s7 s8 s9 s10 s11 s12 s13 s15 s21 s22 s23 s25 s26 s27 : Int} {s18 s20 : Bool} {s14 s16 s17 s19 s24 : Rows} {t0 t1 t2 t3 t4 t5 t6 t7 t8 t9 t10 t11 t12 t13 t15 t21 t22 t23 t25 t26 t27 : Int} {t18 t20 : Bool} {t14 t16 t17 t19 t24 : Rows} (h : Fit s14 s16 s17 s19 s24) (ht : Fit t14 t16 t17 t19 t24) (hN : 2097152 < N) : c_w14_shared N [.int s0, .int s1, .int s2, .int s3, .int s4, .int s5, .int s6, .int s7, .int s8, .int s9, .int s10, .int s11, .int s12, .int s13, .rows s14, .int s15, .rows s16, .rows s17, .bool s18, .rows s19, .bool s20, .int s21, .int s22, .int s23, .rows s24, .int s25, .int s26, .int s27, .int t0, .int t1, .int t2, .int t3, .int t4, .int t5, .int t6, .int t7, .int t8, .int t9, .int t10, .int t11, .int t12, .int t13, .rows t14, .int t15, .rows t16, .rows t17, .bool t18, .rows t19, .bool t20, .int t21, .int t22, .int t23, .rows t24, .int t25, .int t26, .int t27] = some [.bool false] := by
  show t_w14_shared (std (env_w14_shared N) N) (xOf _) = _
  simp only [t_w14_shared, e_w14_shared_r14_Same, e_w14_shared_r14_Clone, std, xOf, PXb, L_r14_Clone h, L_r14_Same h hN, same_refl]
  have hb := ht.bt
  have hd := ht.bd
  have hz := ht.sb
  refine bind_loop (iter_all (len := t14.length) (fun i => [.int (i : Int), .int t0, .int t1, .int t2, .int t3, .int t4, .int t5, .int t6, .int t7, .int t8, .int t9, .int t10, .int t11, .int t12, .int t13, .rows (bmpI .u8 t14 i), .int t15, .rows t16, .rows t17, .bool t18, .rows t19, .bool t20, .int t21, .int t22, .int t23, .rows t24, .int t25, .int t26, .int t27]) [.int t0, .int t1, .int t2, .int t3, .int t4, .int t5, .int t6, .int t7, .int t8, .int t9, .int t10, .int t11, .int t12, .int t13, .rows (bmpI .u8 t14 t14.length), .int t15, .rows t16, .rows t17, .bool t18, .rows t19, .bool t20, .int t21, .int t22, .int t23, .rows t24, .int t25, .int t26, .int t27] ?_ ?_ N (by omega)) ?_
  · intro self
    simp only [PXb, PXc, PXn, PXm, Nat.reduceAdd, Int.reduceBEq, ge_len]
  · intro i self hi
    simp only [PXb, PXc, PXn, PXm, Nat.reduceAdd, Int.reduceBEq, wrap_nat (show i ≤ 1099511627776 by omega), lt_len hi, bmpI_len, in_range hi]
    rfl
  simp only [PXb, PXc, PXn, PXm, Nat.reduceAdd, Int.reduceBEq]
  refine bind_loop (iter_all (len := t19.length) (fun i => [.int (i : Int), .int t0, .int t1, .int t2, .int t3, .int t4, .int t5, .int t6, .int t7, .int t8, .int t9, .int t10, .int t11, .int t12, .int t13, .rows (bmpI .u8 t14 t14.length), .int t15, .rows t16, .rows t17, .bool t18, .rows (bmpI .i64 t19 i), .bool t20, .int t21, .int t22, .int t23, .rows t24, .int t25, .int t26, .int t27]) [.int t0, .int t1, .int t2, .int t3, .int t4, .int t5, .int t6, .int t7, .int t8, .int t9, .int t10, .int t11, .int t12, .int t13, .rows (bmpI .u8 t14 t14.length), .int t15, .rows t16, .rows t17, .bool t18, .rows (bmpI .i64 t19 t19.length), .bool t20, .int t21, .int t22, .int t23, .rows t24, .int t25, .int t26, .int t27] ?_ ?_ N (by omega)) ?_
  · intro self
    simp only [PXb, PXc, PXn, PXm, Nat.reduceAdd, Int.reduceBEq, ge_len]
  · intro i self hi
    simp only [PXb, PXc, PXn, PXm, Nat.reduceAdd, Int.reduceBEq, wrap_nat (show i ≤ 1099511627776 by omega), lt_len hi, bmpI_len, in_range hi]
    rfl
  simp only [PXb, PXc, PXn, PXm, Nat.reduceAdd, Int.reduceBEq]
  refine bind_loop (iter_all (len := t24.length) (fun i => [.int (i : Int), .int t0, .int t1, .int t2, .int t3, .int t4, .int t5, .int t6, .int t7, .int t8, .int t9, .int t10, .int t11, .int t12, .int t13, .rows (bmpI .u8 t14 t14.length), .int t15, .rows t16, .rows t17, .bool t18, .rows (bmpI .i64 t19 t19.length), .bool t20, .int t21, .int t22, .int t23, .rows (bmpB t24 i), .int t25, .int t26, .int t27]) [] ?_ ?_ N (by omega)) ?_
  · intro self
    simp only [PXb, PXc, PXn, PXm, Nat.reduceAdd, Int.reduceBEq, ge_len]
  · intro i self hi
    simp only [PXb, PXc, PXn, PXm, Nat.reduceAdd, Int.reduceBEq, wrap_nat (show i ≤ 1099511627776 by omega), lt_len hi, bmpB_len, in_range hi]
    rfl
  simp only [PXb, PXc, PXn, PXm, Nat.reduceAdd, Int.reduceBEq, same_refl]
theorem cut_shp {L : Rows} {c : Int} (h : Shp L) : Shp (cut L c) := fun r hr => h r (List.mem_of_mem_take (List.mem_of_mem_drop hr))
theorem step_same {r : Rul} {s : Inn} {e : Ev} (h : ((stepS r s e).2 == 0) = false) : (stepS r s e).1 = s := by
  unfold stepS at h ⊢
  cases h1 : (!validS r s || !(evS e == 0)) with
  | true => rfl
  | false =>
    cases h2 : !(s.ending == 0) with
    | true => rfl
    | false =>
      cases h3 : noWay s e with
      | true => rfl
      | false =>
        cases h4 : (performS r s e).2 == 0 with
        | false => rfl
        | true => rw [h1, h2, h3, h4] at h; cases h
theorem L_w14_InningsRefuses {N : Nat} {r1 r2 r3 r4 r5 r6 r7 r9 r10 r11 r12 : Int} {r8 : Bool} {r0 : ByteArray} {r13 : Rows} {s0 s1 s2 s3 s4 s5 s6 s7 s8 s9 s10 s11 s12 s13 s15 s21 s22 s23 s25 s26 s27 : Int} {s18 s20 : Bool} {s14 s16 s17 s19 s24 : Rows} {e0 e1 e2 e3 e5 e6 e7 e8 e9 e10 e11 e13 e14 e15 e16 e18 : Int} {e4 e12 e17 : Bool} (ha : c_w14_awake N [] = some [.bool true]) (hN : 2097152 < N) (hs : r0.size ≤ 1048576) (hq : ∀ x ∈ s14, x ≠ []) : c_w14_InningsRefuses N [.str r0, .int r1, .int r2, .int r3, .int r4, .int r5, .int r6, .int r7, .bool r8, .int r9, .int r10, .int r11, .int r12, .rows r13, .int s0, .int s1, .int s2, .int s3, .int s4, .int s5, .int s6, .int s7, .int s8, .int s9, .int s10, .int s11, .int s12, .int s13, .rows s14, .int s15, .rows s16, .rows s17, .bool s18, .rows s19, .bool s20, .int s21, .int s22, .int s23, .rows s24, .int s25, .int s26, .int s27, .int e0, .int e1, .int e2, .int e3, .bool e4, .int e5, .int e6, .int e7, .int e8, .int e9, .int e10, .int e11, .bool e12, .int e13, .int e14, .int e15, .int e16, .bool e17, .int e18] = some [.bool true] := by
  show t_w14_InningsRefuses (std (env_w14_InningsRefuses N) N) (xOf _) = _
  have f := few_fit (⟨s0, s1, s2, s3, s4, s5, s6, s7, s8, s9, s10, s11, s12, s13, s14, s15, s16, s17, s18, s19, s20, s21, s22, s23, s24, s25, s26, s27⟩ : Inn)
  have w := few_hw (⟨s0, s1, s2, s3, s4, s5, s6, s7, s8, s9, s10, s11, s12, s13, s14, s15, s16, s17, s18, s19, s20, s21, s22, s23, s24, s25, s26, s27⟩ : Inn)
  have n := bounded_name (⟨r0, r1, r2, r3, r4, r5, r6, r7, r8, r9, r10, r11, r12, r13⟩ : Rul) hs
  have p := bounded_power (⟨r0, r1, r2, r3, r4, r5, r6, r7, r8, r9, r10, r11, r12, r13⟩ : Rul)
  have l1 := step_lens (boundedS (⟨r0, r1, r2, r3, r4, r5, r6, r7, r8, r9, r10, r11, r12, r13⟩ : Rul)) (fewS (⟨s0, s1, s2, s3, s4, s5, s6, s7, s8, s9, s10, s11, s12, s13, s14, s15, s16, s17, s18, s19, s20, s21, s22, s23, s24, s25, s26, s27⟩ : Inn)) (⟨e0, e1, e2, e3, e4, e5, e6, ⟨e7, e8, e9, e10, e11, e12, e13, e14, e15, e16, e17, e18⟩⟩ : Ev)
  have f1 := fit_of l1 f (by omega)
  have hk := step_keep (r := boundedS (⟨r0, r1, r2, r3, r4, r5, r6, r7, r8, r9, r10, r11, r12, r13⟩ : Rul)) (s := fewS (⟨s0, s1, s2, s3, s4, s5, s6, s7, s8, s9, s10, s11, s12, s13, s14, s15, s16, s17, s18, s19, s20, s21, s22, s23, s24, s25, s26, s27⟩ : Inn)) (e := (⟨e0, e1, e2, e3, e4, e5, e6, ⟨e7, e8, e9, e10, e11, e12, e13, e14, e15, e16, e17, e18⟩⟩ : Ev))
  simp only [t_w14_InningsRefuses, e_w14_InningsRefuses_w14_awake, e_w14_InningsRefuses_w14_bounded, e_w14_InningsRefuses_w14_Few, e_w14_InningsRefuses_innings_Valid, e_w14_InningsRefuses_innings_Step, e_w14_InningsRefuses_innings_Same, e_w14_InningsRefuses_innings_Clone, e_w14_InningsRefuses_w14_big, e_w14_InningsRefuses_w14_shared, std, xOf, PXb, PXc, PXn, PXm, Nat.reduceAdd, Int.reduceBEq, ha, L_w14_bounded, L_w14_Few, Rul.ls, L_innings_Clone f, L_innings_Step f w hN n p, L_innings_Same f hN, L_innings_Same f1 hN, same_refl, L_innings_Valid f hN n, L_innings_Valid f1 hN n, L_w14_big hN f.bd, L_w14_shared f f1 hN]
  generalize hR : boundedS (⟨r0, r1, r2, r3, r4, r5, r6, r7, r8, r9, r10, r11, r12, r13⟩ : Rul) = R at *
  generalize hS : fewS (⟨s0, s1, s2, s3, s4, s5, s6, s7, s8, s9, s10, s11, s12, s13, s14, s15, s16, s17, s18, s19, s20, s21, s22, s23, s24, s25, s26, s27⟩ : Inn) = S at *
  generalize hE : (⟨e0, e1, e2, e3, e4, e5, e6, ⟨e7, e8, e9, e10, e11, e12, e13, e14, e15, e16, e17, e18⟩⟩ : Ev) = E at *
  have hsh : Shp S.batters := by rw [← hS]; exact cut_shp hq
  cases hl : (stepS R S E).2 == 0 with
  | false =>
    rw [step_same hl, same_refl]
    rfl
  | true =>
    obtain ⟨hv, he, hn, hw, hp, hst⟩ := step_ok hl
    rw [hv, hn]
    cases hb : bigS S with
    | true => cases validS R (stepS R S E).1 <;> rfl
    | false =>
      rw [valid_iff.2 (hk hl hsh (not_big hb))]
      rfl
end Go.Px
end
