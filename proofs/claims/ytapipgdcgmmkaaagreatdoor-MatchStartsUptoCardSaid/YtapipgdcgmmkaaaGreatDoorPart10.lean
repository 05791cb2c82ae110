/- Part 10. -/
import Derived.Test.YtapipgdcgmmkaaaGreatDoorPart09
set_option linter.unusedVariables false
set_option linter.unusedSimpArgs false
section
namespace Go.Px
set_option maxRecDepth 100000
structure Lens (s t : Inn) : Prop where
 bt : t.batters.length = s.batters.length
 bd : t.bowled.length = s.bowled.length
 sb : t.subs.length = s.subs.length
 bw : t.bowlers.length ≤ s.bowlers.length + 1
 bf : t.before.length ≤ s.before.length + s.bowlers.length + 1
theorem Lens.refl (s : Inn) : Lens s s := ⟨rfl, rfl, rfl, by omega, by omega⟩
@[reducible] def YG (t : Inn) (a b e f g : Int) : Inn := ⟨t.side, t.target, t.overs, a, t.wickets, b, e, f, g, t.pens, t.complete, t.inover, t.striker, t.other, t.batters, t.bowler, t.bowlers, t.before, t.fresh, t.bowled, t.freehit, t.ballage, t.keeper, t.outside, t.subs, t.rev1, t.rev2, t.ending⟩
end Go.Px
end
section
namespace Go.Px
set_option maxRecDepth 100000
theorem Lens.of {s t : Inn} (h1 : t.batters.length = s.batters.length) (h2 : t.bowled.length = s.bowled.length) (h3 : t.subs.length = s.subs.length) (h4 : t.bowlers = s.bowlers) (h5 : t.before = s.before) : Lens s t := ⟨h1, h2, h3, by rw [h4]; omega, by rw [h5]; omega⟩
def QO (r : Rul) (s : Inn) : Bool := Tj r.name r.side r.innings r.overs r.balls r.quota r.wide r.noball r.newball r.followon r.reviews r.outside r.power s.batters s.bowlers s.before s.bowled s.subs s.side s.target s.overs s.runs s.wickets s.wides s.noballs s.byes s.legbyes s.pens s.complete s.inover s.striker s.other s.bowler s.ballage s.keeper s.outside s.rev1 s.rev2 s.ending
theorem QZ {N : Nat} {r1 r2 r3 r4 r5 r6 r7 r9 r10 r11 r12 : Int} {r8 : Bool} {r0 : ByteArray} {r13 : Rows} {s0 s1 s2 s3 s4 s5 s6 s7 s8 s9 s10 s11 s12 s13 s15 s21 s22 s23 s25 s26 s27 : Int} {s18 s20 : Bool} {s14 s16 s17 s19 s24 : Rows} (h : Fit s14 s16 s17 s19 s24) (hN : 2097152 < N) (hs : r0.size ≤ 1048576) : A3 N [.str r0, .int r1, .int r2, .int r3, .int r4, .int r5, .int r6, .int r7, .bool r8, .int r9, .int r10, .int r11, .int r12, .rows r13, .int s0, .int s1, .int s2, .int s3, .int s4, .int s5, .int s6, .int s7, .int s8, .int s9, .int s10, .int s11, .int s12, .int s13, .rows s14, .int s15, .rows s16, .rows s17, .bool s18, .rows s19, .bool s20, .int s21, .int s22, .int s23, .rows s24, .int s25, .int s26, .int s27] = some [.bool (QO (⟨r0, r1, r2, r3, r4, r5, r6, r7, r8, r9, r10, r11, r12, r13⟩ : Rul) (⟨s0, s1, s2, s3, s4, s5, s6, s7, s8, s9, s10, s11, s12, s13, s14, s15, s16, s17, s18, s19, s20, s21, s22, s23, s24, s25, s26, s27⟩ : Inn))] := by
 exact Ph N _ _ _ _ _ _ _ _ _ _ _ _ _ _ _ _ _ _ _ _ _ _ _ _ _ _ _ _ _ _ _ _ _ _ _ _ _ _ _ _ _ _ hN hs h.bt h.bw h.bf h.bd
end Go.Px
end
section
namespace Go.Px
set_option maxRecDepth 100000
def eqL (L M : Rows) : Bool := ((L.length : Int) == (M.length : Int)) && !Aq (fun i => !(atI L i 0 == atI M i 0)) L.length 0
def eqB (L M : Rows) : Bool := ((L.length : Int) == (M.length : Int)) && !Aq (fun i => !(atB L i 0 == atB M i 0)) L.length 0
def eqN (s t : Inn) : Bool := s.side == t.side && s.target == t.target && s.overs == t.overs && s.runs == t.runs && s.wickets == t.wickets && (s.wides == t.wides && (s.noballs == t.noballs && (s.byes == t.byes && (s.legbyes == t.legbyes && s.pens == t.pens)))) && s.complete == t.complete && s.inover == t.inover && s.striker == t.striker && s.other == t.other && s.bowler == t.bowler && s.fresh == t.fresh && s.freehit == t.freehit && s.ballage == t.ballage && s.keeper == t.keeper && s.outside == t.outside && s.rev1 == t.rev1 && s.rev2 == t.rev2 && s.ending == t.ending
def Qw (s t : Inn) : Bool := eqL s.batters t.batters && (eqB s.subs t.subs && (eqL s.bowlers t.bowlers && (eqL s.before t.before && (eqL s.bowled t.bowled && eqN s t))))
theorem WS (L : Rows) : eqL L L = true := by
 unfold eqL
 rw [beq_self_eq_true, H1.2 (fun j _ _ => by rw [beq_self_eq_true]; rfl)]
 rfl
theorem Wg (L : Rows) : eqB L L = true := by
 unfold eqB
 rw [beq_self_eq_true, H1.2 (fun j _ _ => by rw [beq_self_eq_true]; rfl)]
 rfl
theorem Vq (s : Inn) : Qw s s = true := by
 unfold Qw eqN
 simp only [WS, Wg, beq_self_eq_true, Bool.and_self]
theorem RX {i len : Nat} {m : Nat} (h : ((len : Int) == (m : Int)) = true) (hi : i < len) : iIn (i : Int) (m : Int) = true := by
 have := beq_iff_eq.1 h
 exact BH (by omega)
theorem LG {N : Nat} {L : Rows} {M : Rows} (hN : 2097152 < N) (hl : L.length ≤ 1048576) : Fo N [.rows L, .rows M] = some [.bool (eqL L M)] := by
 show H7 (std (Mw N) N) (xOf _) = _
 simp only [H7, std, xOf, PXb, PXc, PXn, AW]
 unfold eqL
 cases hm : (L.length : Int) == (M.length : Int) with
 | false => rfl
 | true =>
  simp only [PXb, PXc, PXn, AW]
  refine BE (DE (len := L.length) (fun i => !(atI L i 0 == atI M i 0)) [.bool false] ?_ ?_ N (by omega)) ?_
  ·intro self
   simp only [PXb, PXc, PXn, AW, CN]
  ·intro i self hi
   simp only [PXb, PXc, PXn, AW, BL (show i ≤ 1099511627776 by omega), CC hi, BH hi, RX hm hi, H9]
  ·cases Aq (fun i => !(atI L i 0 == atI M i 0)) L.length 0 <;> rfl
set_option maxHeartbeats 4000000 in
theorem Uz {N : Nat} {s0 s1 s2 s3 s4 s5 s6 s7 s8 s9 s10 s11 s12 s13 s15 s21 s22 s23 s25 s26 s27 : Int} {s18 s20 : Bool} {s14 s16 s17 s19 s24 : Rows} {t0 t1 t2 t3 t4 t5 t6 t7 t8 t9 t10 t11 t12 t13 t15 t21 t22 t23 t25 t26 t27 : Int} {t18 t20 : Bool} {t14 t16 t17 t19 t24 : Rows} (h : Fit s14 s16 s17 s19 s24) (hN : 2097152 < N) : FI N [.int s0, .int s1, .int s2, .int s3, .int s4, .int s5, .int s6, .int s7, .int s8, .int s9, .int s10, .int s11, .int s12, .int s13, .rows s14, .int s15, .rows s16, .rows s17, .bool s18, .rows s19, .bool s20, .int s21, .int s22, .int s23, .rows s24, .int s25, .int s26, .int s27, .int t0, .int t1, .int t2, .int t3, .int t4, .int t5, .int t6, .int t7, .int t8, .int t9, .int t10, .int t11, .int t12, .int t13, .rows t14, .int t15, .rows t16, .rows t17, .bool t18, .rows t19, .bool t20, .int t21, .int t22, .int t23, .rows t24, .int t25, .int t26, .int t27] = some [.bool (Qw (⟨s0, s1, s2, s3, s4, s5, s6, s7, s8, s9, s10, s11, s12, s13, s14, s15, s16, s17, s18, s19, s20, s21, s22, s23, s24, s25, s26, s27⟩ : Inn) (⟨t0, t1, t2, t3, t4, t5, t6, t7, t8, t9, t10, t11, t12, t13, t14, t15, t16, t17, t18, t19, t20, t21, t22, t23, t24, t25, t26, t27⟩ : Inn))] := by
 show Hr (std (IG N) N) (xOf _) = _
 generalize hres : (some [.bool (Qw (⟨s0, s1, s2, s3, s4, s5, s6, s7, s8, s9, s10, s11, s12, s13, s14, s15, s16, s17, s18, s19, s20, s21, s22, s23, s24, s25, s26, s27⟩ : Inn) (⟨t0, t1, t2, t3, t4, t5, t6, t7, t8, t9, t10, t11, t12, t13, t14, t15, t16, t17, t18, t19, t20, t21, t22, t23, t24, t25, t26, t27⟩ : Inn))] : Option (List PV)) = RR
 simp only [Hr, Mg, std, xOf, PXb, LG hN h.bw', LG hN h.bf, LG hN h.bd]
 subst hres; simp only [Qw, eqN]
 rw [show eqL s14 t14 = (((s14.length : Int) == (t14.length : Int)) && !Aq (fun i => !(atI s14 i 0 == atI t14 i 0)) s14.length 0) from rfl,
  show eqB s24 t24 = (((s24.length : Int) == (t24.length : Int)) && !Aq (fun i => !(atB s24 i 0 == atB t24 i 0)) s24.length 0) from rfl]
 cases hm : (s14.length : Int) == (t14.length : Int) with
 | false => rfl
 | true =>
  cases hk : (s24.length : Int) == (t24.length : Int) with
  | false => simp only [PXb, PXc, PXn, PXm, Nat.reduceAdd, Int.reduceBEq]
  | true =>
   simp only [PXb, PXc, PXn, PXm, Nat.reduceAdd, Int.reduceBEq]
   cases eqL s16 t16 <;> try (simp only [PXb, PXc, PXn, PXm, Nat.reduceAdd, Int.reduceBEq]; done)
   cases eqL s17 t17 <;> try (simp only [PXb, PXc, PXn, PXm, Nat.reduceAdd, Int.reduceBEq]; done)
   cases eqL s19 t19 <;> try (simp only [PXb, PXc, PXn, PXm, Nat.reduceAdd, Int.reduceBEq]; done)
   simp only [PXb]
   refine BE (DE (len := s14.length) (fun i => !(atI s14 i 0 == atI t14 i 0)) [.bool false] ?_ ?_ N (by have := h.bt; omega)) ?_
   ·intro self
    simp only [PXb, PXc, PXn, AW, CN]
   ·intro i self hi
    have hb := h.bt
    simp only [PXb, PXc, PXn, AW, BL (show i ≤ 1099511627776 by omega), CC hi, BH hi, RX hm hi, H9]
   ·cases Aq (fun i => !(atI s14 i 0 == atI t14 i 0)) s14.length 0 with
    | true => rfl
    | false =>
     simp only [PXb, PXc, PXn, PXm, Nat.reduceAdd, Int.reduceBEq]
     refine BE (DE (len := s24.length) (fun i => !(atB s24 i 0 == atB t24 i 0)) [.bool false] ?_ ?_ N (by have := h.sb; omega)) ?_
     ·intro self
      simp only [PXb, PXc, PXn, AW, CN]
     ·intro i self hi
      have hb := h.sb
      simp only [PXb, PXc, PXn, AW, BL (show i ≤ 1099511627776 by omega), CC hi, BH hi, RX hk hi, XN]
     ·cases Aq (fun i => !(atB s24 i 0 == atB t24 i 0)) s24.length 0 with
      | true => rfl
      | false => simp only [PXb, PXc, PXn, PXm, Nat.reduceAdd, Int.reduceBEq]
def UB (r : Rul) : Rul := { r with name := NN r.name 20, power := cut r.power 10 }
theorem Xi (L : Rows) (c : Nat) : (cut L c).length ≤ c := by
 unfold cut
 rw [List.length_drop, List.length_take]
 cases h : iLt (c : Int) (L.length : Int) with
 | true => simp only [cond_true]; omega
 | false => simp only [iLt, decide_eq_false_iff_not] at h; simp only [cond_false]; omega
theorem Tc (r : Rul) (h : r.name.size ≤ 1048576) : (UB r).name.size ≤ 1048576 := Nat.le_trans (WJ _ _) h
theorem Sk (r : Rul) : (UB r).power.length ≤ 1048576 := Nat.le_trans (Xi _ 10) (by omega)
end Go.Px
end
section
namespace Go.Px
set_option maxRecDepth 100000
theorem W4 {x a b : Int} : btw x a b = true ↔ a ≤ x ∧ x ≤ b := by simp [btw, iLe]
structure RulOk (r : Rul) : Prop where
 side : 2 ≤ r.side ∧ r.side ≤ 11
 innings : 1 ≤ r.innings ∧ r.innings ≤ 2
 overs : 0 ≤ r.overs ∧ r.overs ≤ 90
 balls : 4 ≤ r.balls ∧ r.balls ≤ 8
 quota : 0 ≤ r.quota ∧ r.quota ≤ 90
 wide : 1 ≤ r.wide ∧ r.wide ≤ 5
 noball : 1 ≤ r.noball ∧ r.noball ≤ 5
 newball : 0 ≤ r.newball ∧ r.newball ≤ 200
 followon : 0 ≤ r.followon ∧ r.followon ≤ 1000
 reviews : 0 ≤ r.reviews ∧ r.reviews ≤ 9
 outside : 0 ≤ r.outside ∧ r.outside ≤ 11
theorem XJ {r : Rul} (h : Bb r = 0) : RulOk r := by
 unfold Bb C8 at h
 cases hn : Fz r.name with
 | false => rw [hn] at h; cases h
 | true =>
  cases hr : Dy r.side r.innings r.overs r.balls r.quota r.wide r.noball r.newball r.followon r.reviews r.outside with
  | false => rw [hn, hr] at h; cases h
  | true =>
   unfold Dy at hr
   simp only [Bool.and_eq_true, W4] at hr
   obtain ⟨⟨⟨⟨⟨⟨⟨⟨⟨⟨h1, h2⟩, h3⟩, h4⟩, h5⟩, h6⟩, h7⟩, h8⟩, h9⟩, h10⟩, h11⟩ := hr
   exact ⟨h1, h2, h3, h4, h5, h6, h7, h8, h9, h10, h11⟩
def Eg (x : Int) : Prop := 0 ≤ x ∧ x ≤ 1000000000
structure InnOk (r : Rul) (s : Inn) : Prop where
 code : Bb r = 0
 side : 1 ≤ s.side ∧ s.side ≤ 2
 lb : (s.batters.length : Int) = r.side
 ld : (s.bowled.length : Int) = r.side
 lz : (s.subs.length : Int) = r.side
 ending : s.ending ≤ 5
 st : 0 ≤ s.striker ∧ s.striker ≤ r.side
 ot : 0 ≤ s.other ∧ s.other ≤ r.side
 bat : QW s.batters s.striker s.other s.wickets = true
 bow : 0 ≤ s.bowler ∧ s.bowler ≤ r.side
 kee : 0 ≤ s.keeper ∧ s.keeper ≤ r.side
 dw : HE s.bowlers r.side = true
 df : HE s.before r.side = true
 ov : Rs r.overs s.overs = true
 io : 0 ≤ s.inover ∧ s.inover ≤ r.balls - 1
 target : Eg s.target
 runs : Eg s.runs
 wides : Eg s.wides
 noballs : Eg s.noballs
 byes : Eg s.byes
 legbyes : Eg s.legbyes
 pens : Eg s.pens
 complete : Eg s.complete
 ballage : Eg s.ballage
 outside : Eg s.outside
 rev1 : Eg s.rev1
 rev2 : Eg s.rev2
 bowled : II G5 s.bowled = false
end Go.Px
end
section
namespace Go.Px
set_option maxRecDepth 100000
structure BatOk (L : Rows) (s n wk : Int) : Prop where
 le : ∀ i, i < L.length → atI L i 0 ≤ 3
 at1 : ∀ i, i < L.length → (atI L i 0 = 1 ↔ (s = (i : Int) + 1 ∨ n = (i : Int) + 1))
 here : Qc L = true → s ≠ 0 ∨ n ≠ 0
 ne : s ≠ 0 → s ≠ n
 wk : wk = Rr L
end Go.Px
end
section
namespace Go.Px
set_option maxRecDepth 100000
structure Small (s : Inn) : Prop where
 target : s.target ≤ 999999900
 runs : s.runs ≤ 999999900
 wides : s.wides ≤ 999999900
 noballs : s.noballs ≤ 999999900
 byes : s.byes ≤ 999999900
 legbyes : s.legbyes ≤ 999999900
 pens : s.pens ≤ 999999900
 complete : s.complete ≤ 999999900
 ballage : s.ballage ≤ 999999900
 rev1 : s.rev1 ≤ 999999900
 rev2 : s.rev2 ≤ 999999900
 bowled : ∀ j, j < s.bowled.length → atI s.bowled j 0 ≤ 999999900
end Go.Px
end
