/- Part 12. -/
import Derived.Test.YtapipgdcgmmkaaaGreatDoorPart11
import Derived.Test.YtapipgdcgmmkaaaGreatDoorPart07
set_option linter.unusedVariables false
set_option linter.unusedSimpArgs false
section
namespace Go.Px
set_option maxRecDepth 100000
set_option maxHeartbeats 4000000 in
theorem Wj {N : Nat} {r1 r2 r3 r4 r5 r6 r7 r9 r10 r11 r12 : Int} {r8 : Bool} {r0 : ByteArray} {r13 : Rows} {s0 s1 s2 s3 s4 s5 s6 s7 s8 s9 s10 s11 s12 s13 s15 s21 s22 s23 s25 s26 s27 : Int} {s18 s20 : Bool} {s14 s16 s17 s19 s24 : Rows} {e0 e1 e2 e3 e5 e6 e7 e8 e9 e10 e11 e13 e14 e15 e16 e18 : Int} {e4 e12 e17 : Bool} (h : Fit s14 s16 s17 s19 s24) (hw : s17.length + s16.length ≤ 1000000) (hN : 2097152 < N) (hs : r0.size ≤ 1048576) (h13 : r13.length ≤ 1048576) : G8 N [.str r0, .int r1, .int r2, .int r3, .int r4, .int r5, .int r6, .int r7, .bool r8, .int r9, .int r10, .int r11, .int r12, .rows r13, .int s0, .int s1, .int s2, .int s3, .int s4, .int s5, .int s6, .int s7, .int s8, .int s9, .int s10, .int s11, .int s12, .int s13, .rows s14, .int s15, .rows s16, .rows s17, .bool s18, .rows s19, .bool s20, .int s21, .int s22, .int s23, .rows s24, .int s25, .int s26, .int s27, .int e0, .int e1, .int e2, .int e3, .bool e4, .int e5, .int e6, .int e7, .int e8, .int e9, .int e10, .int e11, .bool e12, .int e13, .int e14, .int e15, .int e16, .bool e17, .int e18] = some (AZ (C4 (⟨r0, r1, r2, r3, r4, r5, r6, r7, r8, r9, r10, r11, r12, r13⟩ : Rul) (⟨s0, s1, s2, s3, s4, s5, s6, s7, s8, s9, s10, s11, s12, s13, s14, s15, s16, s17, s18, s19, s20, s21, s22, s23, s24, s25, s26, s27⟩ : Inn) (⟨e0, e1, e2, e3, e4, e5, e6, ⟨e7, e8, e9, e10, e11, e12, e13, e14, e15, e16, e17, e18⟩⟩ : Ev))) := by
 show Nf (std (B9 N) N) (xOf _) = _
 generalize hres : (some (AZ (C4 (⟨r0, r1, r2, r3, r4, r5, r6, r7, r8, r9, r10, r11, r12, r13⟩ : Rul) (⟨s0, s1, s2, s3, s4, s5, s6, s7, s8, s9, s10, s11, s12, s13, s14, s15, s16, s17, s18, s19, s20, s21, s22, s23, s24, s25, s26, s27⟩ : Inn) (⟨e0, e1, e2, e3, e4, e5, e6, ⟨e7, e8, e9, e10, e11, e12, e13, e14, e15, e16, e17, e18⟩⟩ : Ev))) : Option (List PV)) = RR
 have l1 := R2 (⟨r0, r1, r2, r3, r4, r5, r6, r7, r8, r9, r10, r11, r12, r13⟩ : Rul) (⟨s0, s1, s2, s3, s4, s5, s6, s7, s8, s9, s10, s11, s12, s13, s14, s15, s16, s17, s18, s19, s20, s21, s22, s23, s24, s25, s26, s27⟩ : Inn) (⟨e0, e1, e2, e3, e4, e5, e6, ⟨e7, e8, e9, e10, e11, e12, e13, e14, e15, e16, e17, e18⟩⟩ : Ev)
 have f1 := Kf l1 h (by simp only; omega)
 simp only [Nf, W3, XQ, XJ, XD, It, Lz, std, xOf, PXb, U1 h, bl h hN hs, bh, Ud h.bt hN]
 subst hres; simp only [C4, pE]
 cases GE (⟨r0, r1, r2, r3, r4, r5, r6, r7, r8, r9, r10, r11, r12, r13⟩ : Rul) (⟨s0, s1, s2, s3, s4, s5, s6, s7, s8, s9, s10, s11, s12, s13, s14, s15, s16, s17, s18, s19, s20, s21, s22, s23, s24, s25, s26, s27⟩ : Inn)
 ·rfl
 cases he : evS (⟨e0, e1, e2, e3, e4, e5, e6, ⟨e7, e8, e9, e10, e11, e12, e13, e14, e15, e16, e17, e18⟩⟩ : Ev) == 0
 ·simp only [PXb, PXc, PXn, PXm, Nat.reduceAdd, Int.reduceBEq, he]
 simp only [PXb, PXc, PXn, PXm, Nat.reduceAdd, Int.reduceBEq, he]
 cases s27 == 0 <;> try rfl
 cases h2 : e0 == 2 <;> cases h1 : e0 == 1 <;> cases hc : e0 == 12 <;> cases hd : e0 == 16 <;> cases CG s14 <;> try rfl
 all_goals first
  | (rw [OM h2 (c := 1) rfl] at h1; exact absurd h1 (by decide))
  | (rw [OM h2 (c := 12) rfl] at hc; exact absurd hc (by decide))
  | (rw [OM h2 (c := 16) rfl] at hd; exact absurd hd (by decide))
  | (simp only [PXb, PXc, PXn, PXm, Nat.reduceAdd, Int.reduceBEq, It, iz h hw hN hs h13 he, iB, h1, hc, hd]; done)
  | skip
 all_goals (simp only [PXb, PXc, PXn, PXm, Nat.reduceAdd, Int.reduceBEq, It, Lz, iz h hw hN hs h13 he, iB, h1, hc, hd, lu f1 hN hs])
 all_goals (unfold aN fo; cases (Co (⟨r0, r1, r2, r3, r4, r5, r6, r7, r8, r9, r10, r11, r12, r13⟩ : Rul) (⟨s0, s1, s2, s3, s4, s5, s6, s7, s8, s9, s10, s11, s12, s13, s14, s15, s16, s17, s18, s19, s20, s21, s22, s23, s24, s25, s26, s27⟩ : Inn) (⟨e0, e1, e2, e3, e4, e5, e6, ⟨e7, e8, e9, e10, e11, e12, e13, e14, e15, e16, e17, e18⟩⟩ : Ev)).2 == 0 <;> cases (Co (⟨r0, r1, r2, r3, r4, r5, r6, r7, r8, r9, r10, r11, r12, r13⟩ : Rul) (⟨s0, s1, s2, s3, s4, s5, s6, s7, s8, s9, s10, s11, s12, s13, s14, s15, s16, s17, s18, s19, s20, s21, s22, s23, s24, s25, s26, s27⟩ : Inn) (⟨e0, e1, e2, e3, e4, e5, e6, ⟨e7, e8, e9, e10, e11, e12, e13, e14, e15, e16, e17, e18⟩⟩ : Ev)).1.ending == 0 <;> rfl)
def eqL (L M : Rows) : Bool := ((L.length : Int) == (M.length : Int)) && !Ak (fun i => !(atI L i 0 == atI M i 0)) L.length 0
def eqB (L M : Rows) : Bool := ((L.length : Int) == (M.length : Int)) && !Ak (fun i => !(atB L i 0 == atB M i 0)) L.length 0
def eqN (s t : Inn) : Bool := s.side == t.side && s.target == t.target && s.overs == t.overs && s.runs == t.runs && s.wickets == t.wickets && (s.wides == t.wides && (s.noballs == t.noballs && (s.byes == t.byes && (s.legbyes == t.legbyes && s.pens == t.pens)))) && s.complete == t.complete && s.inover == t.inover && s.striker == t.striker && s.other == t.other && s.bowler == t.bowler && s.fresh == t.fresh && s.freehit == t.freehit && s.ballage == t.ballage && s.keeper == t.keeper && s.outside == t.outside && s.rev1 == t.rev1 && s.rev2 == t.rev2 && s.ending == t.ending
def eC (s t : Inn) : Bool := eqL s.batters t.batters && (eqB s.subs t.subs && (eqL s.bowlers t.bowlers && (eqL s.before t.before && (eqL s.bowled t.bowled && eqN s t))))
theorem q0 (L : Rows) : eqL L L = true := by
 unfold eqL
 rw [beq_self_eq_true, FF.2 (fun j _ _ => by rw [beq_self_eq_true]; rfl)]
 rfl
theorem rX (L : Rows) : eqB L L = true := by
 unfold eqB
 rw [beq_self_eq_true, FF.2 (fun j _ _ => by rw [beq_self_eq_true]; rfl)]
 rfl
theorem qn (s : Inn) : eC s s = true := by
 unfold eC eqN
 simp only [q0, rX, beq_self_eq_true, Bool.and_self]
theorem gp {i len : Nat} {m : Nat} (h : ((len : Int) == (m : Int)) = true) (hi : i < len) : iIn (i : Int) (m : Int) = true := by
 have := beq_iff_eq.1 h
 exact AX (by omega)
theorem W8 {N : Nat} {L : Rows} {M : Rows} (hN : 2097152 < N) (hl : L.length ≤ 1048576) : NK N [.rows L, .rows M] = some [.bool (eqL L M)] := by
 show Rh (std (Y7 N) N) (xOf _) = _
 simp only [Rh, std, xOf, PXb, PXc, PXn, AA]
 unfold eqL
 cases hm : (L.length : Int) == (M.length : Int) with
 | false => rfl
 | true =>
  simp only [PXb, PXc, PXn, AA]
  refine AN (Bc (len := L.length) (fun i => !(atI L i 0 == atI M i 0)) [.bool false] ?_ ?_ N (by omega)) ?_
  ·intro self
   simp only [PXb, PXc, PXn, AA, As]
  ·intro i self hi
   simp only [PXb, PXc, PXn, AA, AW (show i ≤ 1099511627776 by omega), Am hi, AX hi, gp hm hi, BT]
  ·cases Ak (fun i => !(atI L i 0 == atI M i 0)) L.length 0 <;> rfl
set_option maxHeartbeats 4000000 in
theorem oN {N : Nat} {s0 s1 s2 s3 s4 s5 s6 s7 s8 s9 s10 s11 s12 s13 s15 s21 s22 s23 s25 s26 s27 : Int} {s18 s20 : Bool} {s14 s16 s17 s19 s24 : Rows} {t0 t1 t2 t3 t4 t5 t6 t7 t8 t9 t10 t11 t12 t13 t15 t21 t22 t23 t25 t26 t27 : Int} {t18 t20 : Bool} {t14 t16 t17 t19 t24 : Rows} (h : Fit s14 s16 s17 s19 s24) (hN : 2097152 < N) : NB N [.int s0, .int s1, .int s2, .int s3, .int s4, .int s5, .int s6, .int s7, .int s8, .int s9, .int s10, .int s11, .int s12, .int s13, .rows s14, .int s15, .rows s16, .rows s17, .bool s18, .rows s19, .bool s20, .int s21, .int s22, .int s23, .rows s24, .int s25, .int s26, .int s27, .int t0, .int t1, .int t2, .int t3, .int t4, .int t5, .int t6, .int t7, .int t8, .int t9, .int t10, .int t11, .int t12, .int t13, .rows t14, .int t15, .rows t16, .rows t17, .bool t18, .rows t19, .bool t20, .int t21, .int t22, .int t23, .rows t24, .int t25, .int t26, .int t27] = some [.bool (eC (⟨s0, s1, s2, s3, s4, s5, s6, s7, s8, s9, s10, s11, s12, s13, s14, s15, s16, s17, s18, s19, s20, s21, s22, s23, s24, s25, s26, s27⟩ : Inn) (⟨t0, t1, t2, t3, t4, t5, t6, t7, t8, t9, t10, t11, t12, t13, t14, t15, t16, t17, t18, t19, t20, t21, t22, t23, t24, t25, t26, t27⟩ : Inn))] := by
 show RO (std (SI N) N) (xOf _) = _
 generalize hres : (some [.bool (eC (⟨s0, s1, s2, s3, s4, s5, s6, s7, s8, s9, s10, s11, s12, s13, s14, s15, s16, s17, s18, s19, s20, s21, s22, s23, s24, s25, s26, s27⟩ : Inn) (⟨t0, t1, t2, t3, t4, t5, t6, t7, t8, t9, t10, t11, t12, t13, t14, t15, t16, t17, t18, t19, t20, t21, t22, t23, t24, t25, t26, t27⟩ : Inn))] : Option (List PV)) = RR
 simp only [RO, YS, std, xOf, PXb, W8 hN h.bw', W8 hN h.bf, W8 hN h.bd]
 subst hres; simp only [eC, eqN]
 rw [show eqL s14 t14 = (((s14.length : Int) == (t14.length : Int)) && !Ak (fun i => !(atI s14 i 0 == atI t14 i 0)) s14.length 0) from rfl,
  show eqB s24 t24 = (((s24.length : Int) == (t24.length : Int)) && !Ak (fun i => !(atB s24 i 0 == atB t24 i 0)) s24.length 0) from rfl]
 cases hm : (s14.length : Int) == (t14.length : Int) with
 | false => rfl
 | true =>
  cases hk : (s24.length : Int) == (t24.length : Int) with
  | false => simp only [PXb, PXc, PXn, PXm, Nat.reduceAdd, Int.reduceBEq]
  | true =>
   simp only [PXb, PXc, PXn, PXm, Nat.reduceAdd, Int.reduceBEq]
   cases eqL s16 t16 <;> try (simp only [PXb, PXc, PXn, PXm, Nat.reduceAdd, Int.reduceBEq]; done)
   cases eqL s17 t17 <;> try (simp only [PXb, PXc, PXn, PXm, Nat.reduceAdd, Int.reduceBEq]; done)
   cases eqL s19 t19 <;> try (simp only [PXb, PXc, PXn, PXm, Nat.reduceAdd, Int.reduceBEq]; done)
   simp only [PXb]
   refine AN (Bc (len := s14.length) (fun i => !(atI s14 i 0 == atI t14 i 0)) [.bool false] ?_ ?_ N (by have := h.bt; omega)) ?_
   ·intro self
    simp only [PXb, PXc, PXn, AA, As]
   ·intro i self hi
    have hb := h.bt
    simp only [PXb, PXc, PXn, AA, AW (show i ≤ 1099511627776 by omega), Am hi, AX hi, gp hm hi, BT]
   ·cases Ak (fun i => !(atI s14 i 0 == atI t14 i 0)) s14.length 0 with
    | true => rfl
    | false =>
     simp only [PXb, PXc, PXn, PXm, Nat.reduceAdd, Int.reduceBEq]
     refine AN (Bc (len := s24.length) (fun i => !(atB s24 i 0 == atB t24 i 0)) [.bool false] ?_ ?_ N (by have := h.sb; omega)) ?_
     ·intro self
      simp only [PXb, PXc, PXn, AA, As]
     ·intro i self hi
      have hb := h.sb
      simp only [PXb, PXc, PXn, AA, AW (show i ≤ 1099511627776 by omega), Am hi, AX hi, gp hk hi, sU]
     ·cases Ak (fun i => !(atB s24 i 0 == atB t24 i 0)) s24.length 0 with
      | true => rfl
      | false => simp only [PXb, PXc, PXn, PXm, Nat.reduceAdd, Int.reduceBEq]
def WU (r : Rul) : Rul := { r with name := rc r.name 20, power := cut r.power 10 }
def Wl (s : Inn) : Inn := { s with batters := cut s.batters 13, bowlers := cut s.bowlers 13, before := cut s.before 13, bowled := cut s.bowled 13, subs := cut s.subs 13 }
theorem WC (L : Rows) (c : Nat) : (cut L c).length ≤ c := by
 unfold cut
 rw [List.length_drop, List.length_take]
 cases h : iLt (c : Int) (L.length : Int) with
 | true => simp only [cond_true]; omega
 | false => simp only [iLt, decide_eq_false_iff_not] at h; simp only [cond_false]; omega
theorem sO (s : Inn) : (Wl s).Fit := ⟨Nat.le_trans (WC _ 13) (by omega), Nat.le_trans (WC _ 13) (by omega), Nat.le_trans (WC _ 13) (by omega), Nat.le_trans (WC _ 13) (by omega), Nat.le_trans (WC _ 13) (by omega)⟩
theorem kP (r : Rul) (h : r.name.size ≤ 1048576) : (WU r).name.size ≤ 1048576 := Nat.le_trans (rU _ _) h
theorem i9 (r : Rul) : (WU r).power.length ≤ 1048576 := Nat.le_trans (WC _ 10) (by omega)
theorem nC {s t : Inn} (r : Rul) (b : Bool) (h : Lens s t) : Lens s (aN r t b) := ⟨h.bt, h.bd, h.sb, h.bw, h.bf⟩
theorem UF (r : Rul) (s : Inn) (e : Ev) : Lens s (C4 r s e).1 := by
 unfold C4
 exact L_c _ _ _ (Lens.refl s) (L_c _ _ _ (Lens.refl s) (L_c _ _ _ (Lens.refl s) (L_c _ _ _ (Lens.refl s) (nC r _ (R2 r s e)))))
end Go.Px
end
section
namespace Go.Px
set_option maxRecDepth 100000
theorem aS {x a b : Int} : btw x a b = true ↔ a ≤ x ∧ x ≤ b := by simp [btw, iLe]
structure RulOk (r : Rul) : Prop where
 side : 2 ≤ r.side ∧ r.side ≤ 11
 innings : 1 ≤ r.innings ∧ r.innings ≤ 2
 overs : 0 ≤ r.overs ∧ r.overs ≤ 90
 balls : 4 ≤ r.balls ∧ r.balls ≤ 8
 quota : 0 ≤ r.quota ∧ r.quota ≤ 90
 wide : 1 ≤ r.wide ∧ r.wide ≤ 5
 noball : 1 ≤ r.noball ∧ r.noball ≤ 5
 newball : 0 ≤ r.newball ∧ r.newball ≤ 200
 followon : 0 ≤ r.followon ∧ r.followon ≤ 1000
 reviews : 0 ≤ r.reviews ∧ r.reviews ≤ 9
 outside : 0 ≤ r.outside ∧ r.outside ≤ 11
theorem Ja {r : Rul} (h : Bd r = 0) : RulOk r := by
 unfold Bd DV at h
 cases hn : KQ r.name with
 | false => rw [hn] at h; cases h
 | true =>
  cases hr : Ft r.side r.innings r.overs r.balls r.quota r.wide r.noball r.newball r.followon r.reviews r.outside with
  | false => rw [hn, hr] at h; cases h
  | true =>
   unfold Ft at hr
   simp only [Bool.and_eq_true, aS] at hr
   obtain ⟨⟨⟨⟨⟨⟨⟨⟨⟨⟨h1, h2⟩, h3⟩, h4⟩, h5⟩, h6⟩, h7⟩, h8⟩, h9⟩, h10⟩, h11⟩ := hr
   exact ⟨h1, h2, h3, h4, h5, h6, h7, h8, h9, h10, h11⟩
def CP (x : Int) : Prop := 0 ≤ x ∧ x ≤ 1000000000
structure InnOk (r : Rul) (s : Inn) : Prop where
 code : Bd r = 0
 side : 1 ≤ s.side ∧ s.side ≤ 2
 lb : (s.batters.length : Int) = r.side
 ld : (s.bowled.length : Int) = r.side
 lz : (s.subs.length : Int) = r.side
 ending : s.ending ≤ 5
 st : 0 ≤ s.striker ∧ s.striker ≤ r.side
 ot : 0 ≤ s.other ∧ s.other ≤ r.side
 bat : Tw s.batters s.striker s.other s.wickets = true
 bow : 0 ≤ s.bowler ∧ s.bowler ≤ r.side
 kee : 0 ≤ s.keeper ∧ s.keeper ≤ r.side
 dw : Fa s.bowlers r.side = true
 df : Fa s.before r.side = true
 ov : Lo r.overs s.overs = true
 io : 0 ≤ s.inover ∧ s.inover ≤ r.balls - 1
 target : CP s.target
 runs : CP s.runs
 wides : CP s.wides
 noballs : CP s.noballs
 byes : CP s.byes
 legbyes : CP s.legbyes
 pens : CP s.pens
 complete : CP s.complete
 ballage : CP s.ballage
 outside : CP s.outside
 rev1 : CP s.rev1
 rev2 : CP s.rev2
 bowled : J2 Cr s.bowled = false
theorem sg {x : Int} : Cr x = false ↔ CP x := by
 unfold Cr CP
 rw [Bool.not_eq_false', aS]
theorem rE (a b c d e f g h i j k l : Int) : J2 Cr (XC a b c d e f g h i j k l) = false ↔ CP a ∧ CP b ∧ CP c ∧ CP d ∧ CP e ∧ CP f ∧ CP g ∧ CP h ∧ CP i ∧ CP j ∧ CP k ∧ CP l := by
 rw [OC]
 simp only [XC, List.any_cons, List.any_nil, Bool.or_false, ip, sv, Bool.or_eq_false_iff, sg]
theorem eG {r : Rul} (h : RulOk r) : IntKind.i64.wrap (r.balls - 1) = r.balls - 1 := by
 have := h.balls
 exact FY (by omega) (by omega)
theorem np {x : Int} : (!iLt 5 x) = true ↔ x ≤ 5 := by
 rw [Bool.not_eq_true']
 simp only [iLt, decide_eq_false_iff_not]
 omega
theorem qV {r : Rul} {s : Inn} : GE r s = true ↔ InnOk r s := by
 unfold GE KE
 simp only [Bool.and_eq_true, Bool.not_eq_true', rE, aS]
 constructor
 ·intro ⟨h1, h2, h3, h4, h5, h6, h7, h8, h9, h10, h11, h12, h13, h14, h15, ⟨n1, n2, n3, n4, n5, n6, n7, n8, n9, n10, n11, n12⟩, h17⟩
  have hc : Bd r = 0 := beq_iff_eq.1 h1
  exact ⟨hc, h2, beq_iff_eq.1 h3, beq_iff_eq.1 h4, beq_iff_eq.1 h5, np.1 (by rw [h6]; rfl), h7, h8, h9, h10, h11, h12, h13, h14, by rw [eG (Ja hc)] at h15; exact h15, n1, n2, n3, n4, n5, n6, n7, n8, n9, n10, n11, n12, h17⟩
 ·intro h
  have h6 := np.2 h.ending
  rw [Bool.not_eq_true'] at h6
  exact ⟨beq_iff_eq.2 h.code, h.side, beq_iff_eq.2 h.lb, beq_iff_eq.2 h.ld, beq_iff_eq.2 h.lz, h6, h.st, h.ot, h.bat, h.bow, h.kee, h.dw, h.df, h.ov, by rw [eG (Ja h.code)]; exact h.io,
   ⟨h.target, h.runs, h.wides, h.noballs, h.byes, h.legbyes, h.pens, h.complete, h.ballage, h.outside, h.rev1, h.rev2⟩, h.bowled⟩
end Go.Px
end
section
namespace Go.Px
set_option maxRecDepth 100000
def sH : Inn := ⟨0, 0, 0, 0, 0, 0, 0, 0, 0, 0, 0, 0, 0, 0, [], 0, [], [], false, [], false, 0, 0, 0, [], 0, 0, 0⟩
def sK (n : Nat) (overs side t p : Int) : Inn := ⟨side, t, overs, p, 0, 0, 0, 0, 0, p, 0, 0, 0, 0, List.replicate n [.int 0], 0, [], [], false, List.replicate n [.int 0], false, 0, 0, 0, List.replicate n [.bool false], 0, 0, 0⟩
def Bh (r : Rul) (side t p : Int) : Inn × Int :=
 cond (!(Bd r == 0)) (sH, Bd r) (cond (!btw side 1 2 || !btw t 0 1000000 || !btw p 0 1000000) (sH, 2) (sK r.side.toNat r.overs side t p, 0))
theorem Tk {N : Nat} {r1 r2 r3 r4 r5 r6 r7 r9 r10 r11 r12 : Int} {r8 : Bool} {r0 : ByteArray} {r13 : Rows} {a : Int} {b : Int} {c : Int} (hN : 2097152 < N) (hs : r0.size ≤ 1048576) : Fj N [.str r0, .int r1, .int r2, .int r3, .int r4, .int r5, .int r6, .int r7, .bool r8, .int r9, .int r10, .int r11, .int r12, .rows r13, .int a, .int b, .int c] = some (AZ (Bh (⟨r0, r1, r2, r3, r4, r5, r6, r7, r8, r9, r10, r11, r12, r13⟩ : Rul) a b c)) := by
 show Ib (std (F2 N) N) (xOf _) = _
 generalize hres : (some (AZ (Bh (⟨r0, r1, r2, r3, r4, r5, r6, r7, r8, r9, r10, r11, r12, r13⟩ : Rul) a b c)) : Option (List PV)) = RR
 simp only [Ib, Py, L1, std, xOf, PXb, E4 hN hs, DP]
 subst hres; simp only [Bh]
 cases hc : Bd (⟨r0, r1, r2, r3, r4, r5, r6, r7, r8, r9, r10, r11, r12, r13⟩ : Rul) == 0 with
 | false => rfl
 | true =>
  have rk := (Ja (beq_iff_eq.1 hc)).side
  obtain ⟨k, hk⟩ : ∃ k : Nat, r1 = k := ⟨r1.toNat, by simp only at rk; omega⟩
  subst hk
  simp only at rk
  have h1 : iSm (k : Int) 1 = true := HA (by omega) (by omega)
  have h8 : iSm (k : Int) 8 = true := HA (by omega) (by omega)
  simp only [PXb, PXc, PXn, PXm, Nat.reduceAdd, Int.reduceBEq, h1, h8]
  cases btw a 1 2 <;> cases btw b 0 1000000 <;> cases btw c 0 1000000 <;> rfl
theorem bL {N : Nat} {r1 r2 r3 r4 r5 r6 r7 r9 r10 r11 r12 : Int} {r8 : Bool} {r0 : ByteArray} {r13 : Rows} {a : Int} {b : Int} {c : Int} (hN : 2097152 < N) (hs : r0.size ≤ 1048576) : PE N [.str r0, .int r1, .int r2, .int r3, .int r4, .int r5, .int r6, .int r7, .bool r8, .int r9, .int r10, .int r11, .int r12, .rows r13, .int a, .int b, .int c] = some (AZ (Bh (⟨r0, r1, r2, r3, r4, r5, r6, r7, r8, r9, r10, r11, r12, r13⟩ : Rul) a b c)) := by
 show O7 (std (K0 N) N) (xOf _) = _
 generalize hres : (some (AZ (Bh (⟨r0, r1, r2, r3, r4, r5, r6, r7, r8, r9, r10, r11, r12, r13⟩ : Rul) a b c)) : Option (List PV)) = RR
 simp only [O7, V4, ZV, std, xOf, PXb, H5 hN hs, ZP]
 subst hres; simp only [Bh]
 cases hc : Bd (⟨r0, r1, r2, r3, r4, r5, r6, r7, r8, r9, r10, r11, r12, r13⟩ : Rul) == 0 with
 | false => rfl
 | true =>
  have rk := (Ja (beq_iff_eq.1 hc)).side
  obtain ⟨k, hk⟩ : ∃ k : Nat, r1 = k := ⟨r1.toNat, by simp only at rk; omega⟩
  subst hk
  simp only at rk
  simp only [PXb]
  cases btw a 1 2 <;> try rfl
  cases btw b 0 1000000 <;> try rfl
  cases btw c 0 1000000 <;> try rfl
  simp only [PXb]
  refine AN (DC (len := k) (fun i => [.int (i : Int), .int a, .int b, .int r3, .int c, .int 0, .int 0, .int 0, .int 0, .int 0, .int c, .int 0, .int 0, .int 0, .int 0, .rows (List.replicate i [.int 0]), .int 0, .rows [], .rows [], .bool false, .rows (List.replicate i [.int 0]), .bool false, .int 0, .int 0, .int 0, .rows (List.replicate i [.bool false]), .int 0, .int 0, .int 0]) (sK k r3 a b c).ls ?_ ?_ N (by omega)) rfl
  ·intro self
   simp only [PXb, PXc, PXn, PXm, Nat.reduceAdd, Int.reduceBEq, As]
   rfl
  ·intro i self hi
   have l1 : (List.replicate i [PV.int 0] ++ [[PV.int 0]]).length ≤ 1048576 := by simp; omega
   have l2 : (List.replicate i [PV.bool false] ++ [[PV.bool false]]).length ≤ 1048576 := by simp; omega
   simp only [PXb, PXc, PXn, PXm, Nat.reduceAdd, Int.reduceBEq, AW (show i ≤ 1099511627776 by omega), Am hi, Iw l1 (show 1 ≤ 4096 by omega), Iw l1 (show 8 ≤ 4096 by omega), Iw l2 (show 1 ≤ 4096 by omega)]
   rw [List.replicate_succ', List.replicate_succ']
   rfl
theorem HD (r : Rul) (side t p : Int) : (Bh r side t p).1.Fit ∧ (Bh r side t p).1.before = [] ∧ (Bh r side t p).1.bowlers = [] := by
 unfold Bh
 cases hc : Bd r == 0 with
 | false => exact ⟨⟨by show 0 ≤ 1048576; omega, by show 0 ≤ 1048576; omega, by show 0 ≤ 1048576; omega, by show 0 ≤ 1048576; omega, by show 0 ≤ 1048576; omega⟩, rfl, rfl⟩
 | true =>
  have hs := (Ja (beq_iff_eq.1 hc)).side
  have hl : ∀ x : List PV, (List.replicate r.side.toNat x).length ≤ 1048576 := fun x => by rw [List.length_replicate]; omega
  cases (!btw side 1 2 || !btw t 0 1000000 || !btw p 0 1000000) with
  | true => exact ⟨⟨by show 0 ≤ 1048576; omega, by show 0 ≤ 1048576; omega, by show 0 ≤ 1048576; omega, by show 0 ≤ 1048576; omega, by show 0 ≤ 1048576; omega⟩, rfl, rfl⟩
  | false => exact ⟨⟨hl _, by show 0 ≤ 1048576; omega, by show 0 ≤ 1048576; omega, hl _, hl _⟩, rfl, rfl⟩
theorem sY {s : Inn} (h : s.Fit) : (NN s).Fit := ⟨h.bt, h.bw, h.bf, h.bd, h.sb⟩
end Go.Px
end
section
namespace Go.Px
set_option maxRecDepth 100000
structure BatOk (L : Rows) (s n wk : Int) : Prop where
 le : ∀ i, i < L.length → atI L i 0 ≤ 3
 at1 : ∀ i, i < L.length → (atI L i 0 = 1 ↔ (s = (i : Int) + 1 ∨ n = (i : Int) + 1))
 here : CG L = true → s ≠ 0 ∨ n ≠ 0
 ne : s ≠ 0 → s ≠ n
 wk : wk = dg L
end Go.Px
end
section
namespace Go.Px
set_option maxRecDepth 100000
theorem tA {r : Rul} {s : Inn} (h : InnOk r s) : 2 ≤ r.side ∧ r.side ≤ 11 := (Ja h.code).side
end Go.Px
end
section
namespace Go.Px
set_option maxRecDepth 100000
structure Small (s : Inn) : Prop where
 target : s.target ≤ 999999900
 runs : s.runs ≤ 999999900
 wides : s.wides ≤ 999999900
 noballs : s.noballs ≤ 999999900
 byes : s.byes ≤ 999999900
 legbyes : s.legbyes ≤ 999999900
 pens : s.pens ≤ 999999900
 complete : s.complete ≤ 999999900
 ballage : s.ballage ≤ 999999900
 rev1 : s.rev1 ≤ 999999900
 rev2 : s.rev2 ≤ 999999900
 bowled : ∀ j, j < s.bowled.length → atI s.bowled j 0 ≤ 999999900
end Go.Px
end
section
namespace Go.Px
def AR (xs : List Inn) : Rows := xs.map Inn.ls
def dI : Inn := ⟨0, 0, 0, 0, 0, 0, 0, 0, 0, 0, 0, 0, 0, 0, [], 0, [], [], false, [], false, 0, 0, 0, [], 0, 0, 0⟩
def inn (xs : List Inn) (i : Nat) : Inn := xs.getD i dI
structure Mat where
 rules : Rul
 stage : Int
 first : Int
 follow : Bool
 inns : List Inn
 pen1 : Int
 pen2 : Int
 win : Int
 wside : Int
 margin : Int
def Mat.ls (m : Mat) : List PV := [.str m.rules.name, .int m.rules.side, .int m.rules.innings, .int m.rules.overs, .int m.rules.balls, .int m.rules.quota, .int m.rules.wide, .int m.rules.noball, .bool m.rules.freehit, .int m.rules.newball, .int m.rules.followon, .int m.rules.reviews, .int m.rules.outside, .rows m.rules.power, .int m.stage, .int m.first, .bool m.follow, .rows (AR m.inns), .int m.pen1, .int m.pen2, .int m.win, .int m.wside, .int m.margin]
def RK (x : Mat × Int) : List PV := [.str x.1.rules.name, .int x.1.rules.side, .int x.1.rules.innings, .int x.1.rules.overs, .int x.1.rules.balls, .int x.1.rules.quota, .int x.1.rules.wide, .int x.1.rules.noball, .bool x.1.rules.freehit, .int x.1.rules.newball, .int x.1.rules.followon, .int x.1.rules.reviews, .int x.1.rules.outside, .rows x.1.rules.power, .int x.1.stage, .int x.1.first, .bool x.1.follow, .rows (AR x.1.inns), .int x.1.pen1, .int x.1.pen2, .int x.1.win, .int x.1.wside, .int x.1.margin, .int x.2]
theorem gW (xs : List Inn) (i : Nat) : A6 (AR xs) i = (match xs[i]? with | some s => s.ls | none => []) := by
 unfold A6 AR
 rw [List.getD_eq_getElem?_getD, List.getElem?_map]
 cases xs[i]? <;> rfl
theorem KW (xs : List Inn) (i : Nat) : inn xs i = (match xs[i]? with | some s => s | none => dI) := by
 unfold inn
 rw [List.getD_eq_getElem?_getD]
 cases xs[i]? <;> rfl
theorem dk (xs : List Inn) : (AR xs).length = xs.length := List.length_map _
theorem PXi : (∀ xs : List Inn, (AR xs).length = xs.length) ∧ (∀ (xs : List Inn) (i : Nat), pvI (AK (AR xs) i 0) = (inn xs i).side) ∧ (∀ (xs : List Inn) (i : Nat), pvI (AK (AR xs) i 1) = (inn xs i).target) ∧ (∀ (xs : List Inn) (i : Nat), pvI (AK (AR xs) i 2) = (inn xs i).overs) ∧ (∀ (xs : List Inn) (i : Nat), pvI (AK (AR xs) i 3) = (inn xs i).runs) ∧
    (∀ (xs : List Inn) (i : Nat), pvI (AK (AR xs) i 4) = (inn xs i).wickets) ∧ (∀ (xs : List Inn) (i : Nat), pvI (AK (AR xs) i 5) = (inn xs i).wides) ∧ (∀ (xs : List Inn) (i : Nat), pvI (AK (AR xs) i 6) = (inn xs i).noballs) ∧ (∀ (xs : List Inn) (i : Nat), pvI (AK (AR xs) i 7) = (inn xs i).byes) ∧ (∀ (xs : List Inn) (i : Nat), pvI (AK (AR xs) i 8) = (inn xs i).legbyes) ∧
    (∀ (xs : List Inn) (i : Nat), pvI (AK (AR xs) i 9) = (inn xs i).pens) ∧ (∀ (xs : List Inn) (i : Nat), pvI (AK (AR xs) i 10) = (inn xs i).complete) ∧ (∀ (xs : List Inn) (i : Nat), pvI (AK (AR xs) i 11) = (inn xs i).inover) ∧ (∀ (xs : List Inn) (i : Nat), pvI (AK (AR xs) i 12) = (inn xs i).striker) ∧ (∀ (xs : List Inn) (i : Nat), pvI (AK (AR xs) i 13) = (inn xs i).other) ∧
    (∀ (xs : List Inn) (i : Nat), pvL (AK (AR xs) i 14) = (inn xs i).batters) ∧ (∀ (xs : List Inn) (i : Nat), pvI (AK (AR xs) i 15) = (inn xs i).bowler) ∧ (∀ (xs : List Inn) (i : Nat), pvL (AK (AR xs) i 16) = (inn xs i).bowlers) ∧ (∀ (xs : List Inn) (i : Nat), pvL (AK (AR xs) i 17) = (inn xs i).before) ∧ (∀ (xs : List Inn) (i : Nat), pvB (AK (AR xs) i 18) = (inn xs i).fresh) ∧
    (∀ (xs : List Inn) (i : Nat), pvL (AK (AR xs) i 19) = (inn xs i).bowled) ∧ (∀ (xs : List Inn) (i : Nat), pvB (AK (AR xs) i 20) = (inn xs i).freehit) ∧ (∀ (xs : List Inn) (i : Nat), pvI (AK (AR xs) i 21) = (inn xs i).ballage) ∧ (∀ (xs : List Inn) (i : Nat), pvI (AK (AR xs) i 22) = (inn xs i).keeper) ∧ (∀ (xs : List Inn) (i : Nat), pvI (AK (AR xs) i 23) = (inn xs i).outside) ∧
    (∀ (xs : List Inn) (i : Nat), pvL (AK (AR xs) i 24) = (inn xs i).subs) ∧ (∀ (xs : List Inn) (i : Nat), pvI (AK (AR xs) i 25) = (inn xs i).rev1) ∧ (∀ (xs : List Inn) (i : Nat), pvI (AK (AR xs) i 26) = (inn xs i).rev2) ∧ (∀ (xs : List Inn) (i : Nat), pvI (AK (AR xs) i 27) = (inn xs i).ending) := by
  refine ⟨dk, ?_, ?_, ?_, ?_, ?_, ?_, ?_, ?_, ?_, ?_, ?_, ?_, ?_, ?_, ?_, ?_, ?_, ?_, ?_, ?_, ?_, ?_, ?_, ?_, ?_, ?_, ?_, ?_⟩
  all_goals (intro xs i; rw [KW]; unfold AK; rw [gW]; cases xs[i]? <;> rfl)
theorem Mat.eta (m : Mat) : Mat.mk m.rules m.stage m.first m.follow m.inns m.pen1 m.pen2 m.win m.wside m.margin = m := rfl
theorem PXk : (∀ m : Mat, m.ls = [.str m.rules.name, .int m.rules.side, .int m.rules.innings, .int m.rules.overs, .int m.rules.balls, .int m.rules.quota, .int m.rules.wide, .int m.rules.noball, .bool m.rules.freehit, .int m.rules.newball, .int m.rules.followon, .int m.rules.reviews, .int m.rules.outside, .rows m.rules.power, .int m.stage, .int m.first, .bool m.follow, .rows (AR m.inns), .int m.pen1, .int m.pen2, .int m.win, .int m.wside, .int m.margin]) ∧
    (∀ x : Mat × Int, RK x = [.str x.1.rules.name, .int x.1.rules.side, .int x.1.rules.innings, .int x.1.rules.overs, .int x.1.rules.balls, .int x.1.rules.quota, .int x.1.rules.wide, .int x.1.rules.noball, .bool x.1.rules.freehit, .int x.1.rules.newball, .int x.1.rules.followon, .int x.1.rules.reviews, .int x.1.rules.outside, .rows x.1.rules.power, .int x.1.stage, .int x.1.first, .bool x.1.follow, .rows (AR x.1.inns), .int x.1.pen1, .int x.1.pen2, .int x.1.win, .int x.1.wside, .int x.1.margin, .int x.2]) ∧
    (∀ m : Mat, Mat.mk m.rules m.stage m.first m.follow m.inns m.pen1 m.pen2 m.win m.wside m.margin = m) := ⟨fun _ => rfl, fun _ => rfl, fun _ => rfl⟩
theorem nf : ∀ (ps r pre : List PV), r.length = ps.length → Bz (pre ++ r) pre.length ps = pre ++ ps
 | [], r, pre, h => by
  have : r = [] := List.eq_nil_of_length_eq_zero h
  subst this
  rfl
 | p :: ps, [], pre, h => by cases h
 | p :: ps, a :: r, pre, h => by
  have ih := nf ps r (pre ++ [p]) (by simpa using h)
  simp only [List.length_append, List.length_cons, List.length_nil, List.append_assoc, List.cons_append, List.nil_append] at ih
  unfold Bz
  rw [List.set_append_right _ _ (Nat.le_refl _), Nat.sub_self]
  exact ih
theorem td (a s : Inn) : Bz a.ls 0 s.ls = s.ls := nf s.ls a.ls [] rfl
theorem ss (a : Inn) (e : Int) : Bz a.ls 27 [.int e] = Inn.ls { a with ending := e } := by
 show a.ls.set 27 (.int e) = _
 rfl
theorem tK {xs : List Inn} {i : Nat} (h : i < xs.length) (s : Inn) : (AR xs).set i (Bz (A6 (AR xs) i) 0 s.ls) = AR (xs.set i s) := by
 have e : A6 (AR xs) i = (xs[i]).ls := by rw [gW, List.getElem?_eq_getElem h]
 rw [e, td]
 exact List.map_set.symm
theorem tD {xs : List Inn} {i : Nat} (h : i < xs.length) (e : Int) : (AR xs).set i (Bz (A6 (AR xs) i) 27 [.int e]) = AR (xs.set i { inn xs i with ending := e }) := by
 have e1 : A6 (AR xs) i = (inn xs i).ls := by rw [gW, KW, List.getElem?_eq_getElem h]
 rw [e1, ss]
 exact List.map_set.symm
theorem sT (xs : List Inn) (s : Inn) : AR xs ++ [s.ls] = AR (xs ++ [s]) := by
 show List.map Inn.ls xs ++ List.map Inn.ls [s] = List.map Inn.ls (xs ++ [s])
 exact List.map_append.symm
theorem sm (xs : List Inn) (i : Nat) (s : Inn) : (AR xs).set i (Bz (A6 (AR xs) i) 0 s.ls) = AR (xs.set i s) := by
 by_cases h : i < xs.length
 ·exact tK h s
 ·rw [List.set_eq_of_length_le (by rw [dk]; omega), List.set_eq_of_length_le (by omega)]
theorem nQ (xs : List Inn) (i : Nat) (e : Int) : (AR xs).set i (Bz (A6 (AR xs) i) 27 [.int e]) = AR (xs.set i { inn xs i with ending := e }) := by
 by_cases h : i < xs.length
 ·exact tD h e
 ·rw [List.set_eq_of_length_le (by rw [dk]; omega), List.set_eq_of_length_le (by omega)]
theorem PXr : (∀ (xs : List Inn) (x0 x1 x2 x3 x4 x5 x6 x7 x8 x9 x10 x11 x12 x13 x15 x21 x22 x23 x25 x26 x27 : Int) (x18 x20 : Bool) (x14 x16 x17 x19 x24 : Rows), AR xs ++ [([.int x0, .int x1, .int x2, .int x3, .int x4, .int x5, .int x6, .int x7, .int x8, .int x9, .int x10, .int x11, .int x12, .int x13, .rows x14, .int x15, .rows x16, .rows x17, .bool x18, .rows x19, .bool x20, .int x21, .int x22, .int x23, .rows x24, .int x25, .int x26, .int x27] : List PV)] = AR (xs ++ [⟨x0, x1, x2, x3, x4, x5, x6, x7, x8, x9, x10, x11, x12, x13, x14, x15, x16, x17, x18, x19, x20, x21, x22, x23, x24, x25, x26, x27⟩])) ∧ (∀ (xs : List Inn) (i : Nat) (x0 x1 x2 x3 x4 x5 x6 x7 x8 x9 x10 x11 x12 x13 x15 x21 x22 x23 x25 x26 x27 : Int) (x18 x20 : Bool) (x14 x16 x17 x19 x24 : Rows), (AR xs).set i (Bz (A6 (AR xs) i) 0 [.int x0, .int x1, .int x2, .int x3, .int x4, .int x5, .int x6, .int x7, .int x8, .int x9, .int x10, .int x11, .int x12, .int x13, .rows x14, .int x15, .rows x16, .rows x17, .bool x18, .rows x19, .bool x20, .int x21, .int x22, .int x23, .rows x24, .int x25, .int x26, .int x27]) = AR (xs.set i ⟨x0, x1, x2, x3, x4, x5, x6, x7, x8, x9, x10, x11, x12, x13, x14, x15, x16, x17, x18, x19, x20, x21, x22, x23, x24, x25, x26, x27⟩)) ∧
    (∀ (xs : List Inn) (i : Nat) (e : Int), (AR xs).set i (Bz (A6 (AR xs) i) 27 [.int e]) = AR (xs.set i { inn xs i with ending := e })) :=
  ⟨fun xs x0 x1 x2 x3 x4 x5 x6 x7 x8 x9 x10 x11 x12 x13 x15 x21 x22 x23 x25 x26 x27 x18 x20 x14 x16 x17 x19 x24 => sT xs ⟨x0, x1, x2, x3, x4, x5, x6, x7, x8, x9, x10, x11, x12, x13, x14, x15, x16, x17, x18, x19, x20, x21, x22, x23, x24, x25, x26, x27⟩, fun xs i x0 x1 x2 x3 x4 x5 x6 x7 x8 x9 x10 x11 x12 x13 x15 x21 x22 x23 x25 x26 x27 x18 x20 x14 x16 x17 x19 x24 => sm xs i ⟨x0, x1, x2, x3, x4, x5, x6, x7, x8, x9, x10, x11, x12, x13, x14, x15, x16, x17, x18, x19, x20, x21, x22, x23, x24, x25, x26, x27⟩, nQ⟩
end Go.Px
end
section
namespace Go.Px
set_option maxRecDepth 100000
def Ba (n : Int) : Int := IntKind.i64.wrap (3 - n)
theorem Ha {N : Nat} {n : Int}  : BD N [.int n] = some [.int (Ba n)] := by
 show Kk (std (UA N) N) (xOf _) = _
 simp only [Kk, std, xOf, PXb, PXc, PXn, PXm, Nat.reduceAdd, Int.reduceBEq, Ba]
theorem Fq {N : Nat} {n : Int}  : Bo N [.int n] = some [.int (Ba n)] := by
 show PK (std (YA N) N) (xOf _) = _
 simp only [PK, std, xOf, PXb, PXc, PXn, PXm, Nat.reduceAdd, Int.reduceBEq, Ba]
def DZ (m : Mat) (i : Int) : Int := cond (cond (m.follow && iLe 2 i) (i == 2) (i.tmod 2 == 1)) (Ba m.first) m.first
theorem QS {N : Nat} {m1 m2 m3 m4 m5 m6 m7 m9 m10 m11 m12 m14 m15 m18 m19 m20 m21 m22 : Int} {m8 m16 : Bool} {m0 : ByteArray} {m13 : Rows} {m17 : List Inn} {i : Int}  : Cz N [.str m0, .int m1, .int m2, .int m3, .int m4, .int m5, .int m6, .int m7, .bool m8, .int m9, .int m10, .int m11, .int m12, .rows m13, .int m14, .int m15, .bool m16, .rows (AR m17), .int m18, .int m19, .int m20, .int m21, .int m22, .int i] = some [.int (DZ (⟨⟨m0, m1, m2, m3, m4, m5, m6, m7, m8, m9, m10, m11, m12, m13⟩, m14, m15, m16, m17, m18, m19, m20, m21, m22⟩ : Mat) i)] := by
 show K5 (std (M9 N) N) (xOf _) = _
 generalize hres : (some [.int (DZ (⟨⟨m0, m1, m2, m3, m4, m5, m6, m7, m8, m9, m10, m11, m12, m13⟩, m14, m15, m16, m17, m18, m19, m20, m21, m22⟩ : Mat) i)] : Option (List PV)) = RR
 simp only [K5, Re, std, xOf, PXb, PXc, PXn, PXm, Nat.reduceAdd, Int.reduceBEq, Ha]
 subst hres; simp only [DZ]
theorem aA {N : Nat} {m1 m2 m3 m4 m5 m6 m7 m9 m10 m11 m12 m14 m15 m18 m19 m20 m21 m22 : Int} {m8 m16 : Bool} {m0 : ByteArray} {m13 : Rows} {m17 : List Inn} {i : Int} (hi : 0 ≤ i ∧ i ≤ 3) : EM N [.str m0, .int m1, .int m2, .int m3, .int m4, .int m5, .int m6, .int m7, .bool m8, .int m9, .int m10, .int m11, .int m12, .rows m13, .int m14, .int m15, .bool m16, .rows (AR m17), .int m18, .int m19, .int m20, .int m21, .int m22, .int i] = some [.int (DZ (⟨⟨m0, m1, m2, m3, m4, m5, m6, m7, m8, m9, m10, m11, m12, m13⟩, m14, m15, m16, m17, m18, m19, m20, m21, m22⟩ : Mat) i)] := by
 show Mu (std (OV N) N) (xOf _) = _
 generalize hres : (some [.int (DZ (⟨⟨m0, m1, m2, m3, m4, m5, m6, m7, m8, m9, m10, m11, m12, m13⟩, m14, m15, m16, m17, m18, m19, m20, m21, m22⟩ : Mat) i)] : Option (List PV)) = RR
 simp only [Mu, Un, std, xOf, PXb, PXc, PXn, PXm, Nat.reduceAdd, Int.reduceBEq, Fq]
 subst hres; simp only [DZ]
 have : i = 0 ∨ i = 1 ∨ i = 2 ∨ i = 3 := by omega
 rcases this with h | h | h | h <;> subst h <;> cases m16 <;> rfl
def Fr (xs : List Inn) (side : Int) : Nat → Int
 | 0 => 0
 | i + 1 => cond ((inn xs i).side == side) (IntKind.i64.wrap (Fr xs side i + (inn xs i).runs)) (Fr xs side i)
def BA (m : Mat) (side : Int) : Int := Fr m.inns side m.inns.length
theorem QJ {N : Nat} {m1 m2 m3 m4 m5 m6 m7 m9 m10 m11 m12 m14 m15 m18 m19 m20 m21 m22 : Int} {m8 m16 : Bool} {m0 : ByteArray} {m13 : Rows} {m17 : List Inn} {n : Int} (hN : 2097152 < N) (hl : m17.length ≤ 1048576) : Bj N [.str m0, .int m1, .int m2, .int m3, .int m4, .int m5, .int m6, .int m7, .bool m8, .int m9, .int m10, .int m11, .int m12, .rows m13, .int m14, .int m15, .bool m16, .rows (AR m17), .int m18, .int m19, .int m20, .int m21, .int m22, .int n] = some [.int (BA (⟨⟨m0, m1, m2, m3, m4, m5, m6, m7, m8, m9, m10, m11, m12, m13⟩, m14, m15, m16, m17, m18, m19, m20, m21, m22⟩ : Mat) n)] := by
 show Kq (std (UI N) N) (xOf _) = _
 generalize hres : (some [.int (BA (⟨⟨m0, m1, m2, m3, m4, m5, m6, m7, m8, m9, m10, m11, m12, m13⟩, m14, m15, m16, m17, m18, m19, m20, m21, m22⟩ : Mat) n)] : Option (List PV)) = RR
 simp only [Kq, std, xOf, PXb, PXi]
 subst hres; simp only [BA]
 refine AN (DC (len := m17.length) (fun i => [.int (Fr m17 n i), .int (i : Int)]) [.int (Fr m17 n m17.length)] ?_ ?_ N (by omega)) rfl
 ·intro self
  simp only [PXb, PXc, PXn, AA, As]
 ·intro i self hi
  simp only [PXb, PXc, AA, AW (show i ≤ 1099511627776 by omega), Am hi, AX hi, PXi, Fr]
  cases (inn m17 i).side == n <;> rfl
theorem KB {N : Nat} {m1 m2 m3 m4 m5 m6 m7 m9 m10 m11 m12 m14 m15 m18 m19 m20 m21 m22 : Int} {m8 m16 : Bool} {m0 : ByteArray} {m13 : Rows} {m17 : List Inn} {n : Int} (hN : 2097152 < N) (hl : m17.length ≤ 1048576) : EF N [.str m0, .int m1, .int m2, .int m3, .int m4, .int m5, .int m6, .int m7, .bool m8, .int m9, .int m10, .int m11, .int m12, .rows m13, .int m14, .int m15, .bool m16, .rows (AR m17), .int m18, .int m19, .int m20, .int m21, .int m22, .int n] = some [.int (BA (⟨⟨m0, m1, m2, m3, m4, m5, m6, m7, m8, m9, m10, m11, m12, m13⟩, m14, m15, m16, m17, m18, m19, m20, m21, m22⟩ : Mat) n)] := by
 show O5 (std (Xe N) N) (xOf _) = _
 generalize hres : (some [.int (BA (⟨⟨m0, m1, m2, m3, m4, m5, m6, m7, m8, m9, m10, m11, m12, m13⟩, m14, m15, m16, m17, m18, m19, m20, m21, m22⟩ : Mat) n)] : Option (List PV)) = RR
 simp only [O5, std, xOf, PXb, PXi]
 subst hres; simp only [BA]
 refine AN (DC (len := m17.length) (fun i => [.int (Fr m17 n i), .int (i : Int)]) [.int (Fr m17 n m17.length)] ?_ ?_ N (by omega)) rfl
 ·intro self
  simp only [PXb, PXc, PXn, AA, As]
 ·intro i self hi
  simp only [PXb, PXc, AA, AW (show i ≤ 1099511627776 by omega), Am hi, AX hi, PXi, Fr]
  cases (inn m17 i).side == n <;> rfl
def GC (m : Mat) (side : Int) : Int :=
 cond (iLt (IntKind.i64.wrap ((m.inns.length : Int) + 1)) (IntKind.i64.wrap (2 * m.rules.innings))) 0 (IntKind.i64.wrap (IntKind.i64.wrap (BA m (Ba side) - BA m side) + 1))
theorem Vr {N : Nat} {m1 m2 m3 m4 m5 m6 m7 m9 m10 m11 m12 m14 m15 m18 m19 m20 m21 m22 : Int} {m8 m16 : Bool} {m0 : ByteArray} {m13 : Rows} {m17 : List Inn} {n : Int} (hN : 2097152 < N) (hl : m17.length ≤ 1048576) : GH N [.str m0, .int m1, .int m2, .int m3, .int m4, .int m5, .int m6, .int m7, .bool m8, .int m9, .int m10, .int m11, .int m12, .rows m13, .int m14, .int m15, .bool m16, .rows (AR m17), .int m18, .int m19, .int m20, .int m21, .int m22, .int n] = some [.int (GC (⟨⟨m0, m1, m2, m3, m4, m5, m6, m7, m8, m9, m10, m11, m12, m13⟩, m14, m15, m16, m17, m18, m19, m20, m21, m22⟩ : Mat) n)] := by
 show JX (std (HU N) N) (xOf _) = _
 generalize hres : (some [.int (GC (⟨⟨m0, m1, m2, m3, m4, m5, m6, m7, m8, m9, m10, m11, m12, m13⟩, m14, m15, m16, m17, m18, m19, m20, m21, m22⟩ : Mat) n)] : Option (List PV)) = RR
 simp only [JX, QZ, QW, std, xOf, PXb, PXc, PXn, PXm, Nat.reduceAdd, Int.reduceBEq, PXi, Ha, QJ hN hl]
 subst hres; simp only [GC]
def KX (stage : Int) (xs : List Inn) (i : Nat) : Bool := !(((inn xs i).ending == 0) == (stage == 3 && ((i : Int) == IntKind.i64.wrap ((xs.length : Int) - 1))))
def VQ (m : Mat) : Bool := !Ak (KX m.stage m.inns) m.inns.length 0 && (!(m.stage == 3) || iLt 0 (m.inns.length : Int))
theorem jU {N : Nat} {m1 m2 m3 m4 m5 m6 m7 m9 m10 m11 m12 m14 m15 m18 m19 m20 m21 m22 : Int} {m8 m16 : Bool} {m0 : ByteArray} {m13 : Rows} {m17 : List Inn} (hN : 2097152 < N) (hl : m17.length ≤ 1048576) : Hs N [.str m0, .int m1, .int m2, .int m3, .int m4, .int m5, .int m6, .int m7, .bool m8, .int m9, .int m10, .int m11, .int m12, .rows m13, .int m14, .int m15, .bool m16, .rows (AR m17), .int m18, .int m19, .int m20, .int m21, .int m22] = some [.bool (VQ (⟨⟨m0, m1, m2, m3, m4, m5, m6, m7, m8, m9, m10, m11, m12, m13⟩, m14, m15, m16, m17, m18, m19, m20, m21, m22⟩ : Mat))] := by
 show Kl (std (Tu N) N) (xOf _) = _
 generalize hres : (some [.bool (VQ (⟨⟨m0, m1, m2, m3, m4, m5, m6, m7, m8, m9, m10, m11, m12, m13⟩, m14, m15, m16, m17, m18, m19, m20, m21, m22⟩ : Mat))] : Option (List PV)) = RR
 simp only [Kl, std, xOf, PXb, PXi]
 subst hres; simp only [VQ]
 refine AN (Bc (len := m17.length) (KX m14 m17) [.bool false] ?_ ?_ N (by omega)) ?_
 ·intro self
  simp only [PXb, PXc, PXn, AA, As]
 ·intro i self hi
  simp only [PXb, PXc, AA, AW (show i ≤ 1099511627776 by omega), Am hi, AX hi, PXi, KX]
 ·cases Ak (KX m14 m17) m17.length 0 with
  | true => rfl
  | false => simp only [PXb, PXc, PXn, PXm, Nat.reduceAdd, Int.reduceBEq]
end Go.Px
end
section
namespace Go.Px
set_option maxRecDepth 100000
def DE (xs : List Inn) : Prop := ∀ i, i < xs.length → (inn xs i).Fit
theorem jX {N : Nat} {r1 r2 r3 r4 r5 r6 r7 r9 r10 r11 r12 : Int} {r8 : Bool} {r0 : ByteArray} {r13 : Rows} (hl : r13.length ≤ 1048576) : Dp N [.str r0, .int r1, .int r2, .int r3, .int r4, .int r5, .int r6, .int r7, .bool r8, .int r9, .int r10, .int r11, .int r12, .rows r13] = some [.str r0, .int r1, .int r2, .int r3, .int r4, .int r5, .int r6, .int r7, .bool r8, .int r9, .int r10, .int r11, .int r12, .rows r13] := by
 show Kz (std (NU N) N) (xOf _) = _
 simp only [Kz, Lb, std, xOf, PXb, PXc, PXn, PXm, Nat.reduceAdd, Int.reduceBEq, Cw, BR hl (show 24 ≤ 4096 by omega)]
theorem mg {N : Nat} {r1 r2 r3 r4 r5 r6 r7 r9 r10 r11 r12 : Int} {r8 : Bool} {r0 : ByteArray} {r13 : Rows} (hl : r13.length ≤ 1048576) : KM N [.str r0, .int r1, .int r2, .int r3, .int r4, .int r5, .int r6, .int r7, .bool r8, .int r9, .int r10, .int r11, .int r12, .rows r13] = some [.str r0, .int r1, .int r2, .int r3, .int r4, .int r5, .int r6, .int r7, .bool r8, .int r9, .int r10, .int r11, .int r12, .rows r13] := by
 show Oo (std (YF N) N) (xOf _) = _
 simp only [Oo, std, xOf, PXb, PXc, PXn, PXm, Nat.reduceAdd, Int.reduceBEq, Iw hl (show 24 ≤ 4096 by omega)]
theorem Xc {xs : List Inn} {i : Nat} (h : i < xs.length) : xs.take i ++ [inn xs i] = xs.take (i + 1) := by
 rw [List.take_add_one, KW, List.getElem?_eq_getElem h]
 rfl
theorem jh {N : Nat} {m1 m2 m3 m4 m5 m6 m7 m9 m10 m11 m12 m14 m15 m18 m19 m20 m21 m22 : Int} {m8 m16 : Bool} {m0 : ByteArray} {m13 : Rows} {m17 : List Inn} (hf : DE m17) (hN : 2097152 < N) (hl : m17.length ≤ 1000000) (h13 : m13.length ≤ 1048576) : Hu N [.str m0, .int m1, .int m2, .int m3, .int m4, .int m5, .int m6, .int m7, .bool m8, .int m9, .int m10, .int m11, .int m12, .rows m13, .int m14, .int m15, .bool m16, .rows (AR m17), .int m18, .int m19, .int m20, .int m21, .int m22] = some [.str m0, .int m1, .int m2, .int m3, .int m4, .int m5, .int m6, .int m7, .bool m8, .int m9, .int m10, .int m11, .int m12, .rows m13, .int m14, .int m15, .bool m16, .rows (AR m17), .int m18, .int m19, .int m20, .int m21, .int m22] := by
 show K1 (std (IX N) N) (xOf _) = _
 simp only [K1, RQ, G2, std, xOf, PXb, jX h13, PXi]
 refine AN (DC (len := m17.length) (fun i => [.rows (AR (m17.take i)), .int (i : Int)]) [.rows (AR m17)] ?_ ?_ N (by omega)) rfl
 ·intro self
  simp only [PXb, PXc, PXn, AA, As, List.take_length]
 ·intro i self hi
  have h2 : (m17.take (i + 1)).length ≤ 1048576 := by rw [List.length_take]; omega
  have h3 : iSm ((m17.take (i + 1)).length : Int) 304 = true := HA (by omega) (by omega)
  simp only [PXb, PXc, AA, AW (show i ≤ 1099511627776 by omega), Am hi, AX hi, PXi, G2, Bw (hf i hi), PXr, Inn.eta, h3, Xc hi, Nat.reduceAdd]
  rfl
theorem bm {N : Nat} {m1 m2 m3 m4 m5 m6 m7 m9 m10 m11 m12 m14 m15 m18 m19 m20 m21 m22 : Int} {m8 m16 : Bool} {m0 : ByteArray} {m13 : Rows} {m17 : List Inn} (hf : DE m17) (hN : 2097152 < N) (hl : m17.length ≤ 1000000) (h13 : m13.length ≤ 1048576) : O0 N [.str m0, .int m1, .int m2, .int m3, .int m4, .int m5, .int m6, .int m7, .bool m8, .int m9, .int m10, .int m11, .int m12, .rows m13, .int m14, .int m15, .bool m16, .rows (AR m17), .int m18, .int m19, .int m20, .int m21, .int m22] = some [.str m0, .int m1, .int m2, .int m3, .int m4, .int m5, .int m6, .int m7, .bool m8, .int m9, .int m10, .int m11, .int m12, .rows m13, .int m14, .int m15, .bool m16, .rows (AR m17), .int m18, .int m19, .int m20, .int m21, .int m22] := by
 show Ot (std (Ki N) N) (xOf _) = _
 simp only [Ot, WB, Lx, std, xOf, PXb, mg h13, PXi]
 refine AN (DC (len := m17.length) (fun i => [.rows (AR (m17.take i)), .int (i : Int)]) [.rows (AR m17)] ?_ ?_ N (by omega)) rfl
 ·intro self
  simp only [PXb, PXc, PXn, AA, As, List.take_length]
 ·intro i self hi
  have h2 : (m17.take (i + 1)).length ≤ 1048576 := by rw [List.length_take]; omega
  have h3 : iSm ((m17.take (i + 1)).length : Int) 304 = true := HA (by omega) (by omega)
  simp only [PXb, PXc, AA, AW (show i ≤ 1099511627776 by omega), Am hi, AX hi, PXi, Lx, U1 (hf i hi), PXr, Inn.eta, h3, Xc hi, Nat.reduceAdd]
  rfl
def Z6 (m : Mat) : Bool := (iLt m.pen1 0 || iLt 1000000 m.pen1) || (iLt m.pen2 0 || iLt 1000000 m.pen2)
def JL (m : Mat) (i : Nat) : Bool := !GE m.rules (inn m.inns i) || !((inn m.inns i).side == DZ m (i : Int))
def js (m : Mat) : Bool :=
  let n : Int := m.inns.length
  let most := IntKind.i64.wrap (2 * m.rules.innings)
  Bd m.rules == 0 && (!(iLt m.stage 1) && (!(iLt 5 m.stage) && (!Z6 m && (!(iLt m.first 0 || iLt 2 m.first || iLt most n) && (!(m.first == 0 && (iLt 0 n || (!(m.stage == 1) && !(m.stage == 5)))) &&
    (!(m.stage == 1 && !(m.first == 0)) && (!(m.stage == 2 && n == most) && (!(m.stage == 4 && (!(m.rules.innings == 2) || !(n == 2))) && !(m.follow && (!(m.rules.innings == 2) || iLt n 2))))))))))
def Cq (m : Mat) : Bool := js m && (!Ak (JL m) m.inns.length 0 && VQ m)
set_option maxHeartbeats 4000000 in
theorem YC {N : Nat} {m1 m2 m3 m4 m5 m6 m7 m9 m10 m11 m12 m14 m15 m18 m19 m20 m21 m22 : Int} {m8 m16 : Bool} {m0 : ByteArray} {m13 : Rows} {m17 : List Inn} (hf : DE m17) (hN : 2097152 < N) (hl : m17.length ≤ 1000000) (hs : m0.size ≤ 1048576) : CB N [.str m0, .int m1, .int m2, .int m3, .int m4, .int m5, .int m6, .int m7, .bool m8, .int m9, .int m10, .int m11, .int m12, .rows m13, .int m14, .int m15, .bool m16, .rows (AR m17), .int m18, .int m19, .int m20, .int m21, .int m22] = some [.bool (Cq (⟨⟨m0, m1, m2, m3, m4, m5, m6, m7, m8, m9, m10, m11, m12, m13⟩, m14, m15, m16, m17, m18, m19, m20, m21, m22⟩ : Mat))] := by
 show Ko (std (Dj N) N) (xOf _) = _
 generalize hres : (some [.bool (Cq (⟨⟨m0, m1, m2, m3, m4, m5, m6, m7, m8, m9, m10, m11, m12, m13⟩, m14, m15, m16, m17, m18, m19, m20, m21, m22⟩ : Mat))] : Option (List PV)) = RR
 simp only [Ko, RH, G0, IW, Ih, std, xOf, PXb, E4 hN hs, PXi]
 subst hres; simp only [Cq, js]
 cases hc : Bd (⟨⟨m0, m1, m2, m3, m4, m5, m6, m7, m8, m9, m10, m11, m12, m13⟩, m14, m15, m16, m17, m18, m19, m20, m21, m22⟩ : Mat).rules == 0 <;> (try rfl)
 cases h1 : iLt m14 1 <;> (try rfl)
 cases h5 : iLt 5 m14 <;> (try rfl)
 simp only [PXb]
 refine AN (Bc (len := 2) (fun i => iLt (cond ((i : Int) == 1) m19 m18) 0 || iLt 1000000 (cond ((i : Int) == 1) m19 m18)) [.bool false] ?_ ?_ N (by omega)) ?_
 ·intro self
  rfl
 ·intro i self hi
  simp only [PXb, AW (show i ≤ 1099511627776 by omega), show iLt (i : Int) 2 = true from Am (len := 2) hi, show iIn (i : Int) 2 = true from AX (len := 2) hi]
 ·have hp : Ak (fun i => iLt (cond ((i : Int) == 1) m19 m18) 0 || iLt 1000000 (cond ((i : Int) == 1) m19 m18)) 2 0 = Z6 (⟨⟨m0, m1, m2, m3, m4, m5, m6, m7, m8, m9, m10, m11, m12, m13⟩, m14, m15, m16, m17, m18, m19, m20, m21, m22⟩ : Mat) := by
   simp only [BJ, Gz, Bool.or_false]
   rfl
  rw [hp]
  cases Z6 (⟨⟨m0, m1, m2, m3, m4, m5, m6, m7, m8, m9, m10, m11, m12, m13⟩, m14, m15, m16, m17, m18, m19, m20, m21, m22⟩ : Mat)
  case true => rfl
  simp only [PXb, CF, Int.reduceBEq]
  cases iLt m15 0 <;> try rfl
  cases iLt 2 m15 <;> try rfl
  cases iLt (IntKind.i64.wrap (2 * m2)) (m17.length : Int) <;> try rfl
  cases (m15 == 0 && (iLt 0 (m17.length : Int) || (!(m14 == 1) && !(m14 == 5)))) <;> try rfl
  cases (m14 == 1 && !(m15 == 0)) <;> try rfl
  cases (m14 == 2 && (m17.length : Int) == IntKind.i64.wrap (2 * m2)) <;> try rfl
  cases (m14 == 4 && (!(m2 == 2) || !((m17.length : Int) == 2))) <;> try rfl
  cases (m16 && (!(m2 == 2) || iLt (m17.length : Int) 2)) <;> try rfl
  simp only [PXb]
  refine AN (Bc (len := m17.length) (JL (⟨⟨m0, m1, m2, m3, m4, m5, m6, m7, m8, m9, m10, m11, m12, m13⟩, m14, m15, m16, m17, m18, m19, m20, m21, m22⟩ : Mat)) [.bool false] ?_ ?_ N (by omega)) ?_
  ·intro self
   simp only [PXb, PXc, PXn, AA, As]
  ·intro i self hi
   simp only [PXb, PXc, PXn, PXm, Nat.reduceAdd, Int.reduceBEq, AW (show i ≤ 1099511627776 by omega), Am hi, AX hi, PXi, G0, IW, Te (hf i hi) hN hs, QS, JL]
   cases GE (⟨⟨m0, m1, m2, m3, m4, m5, m6, m7, m8, m9, m10, m11, m12, m13⟩, m14, m15, m16, m17, m18, m19, m20, m21, m22⟩ : Mat).rules (inn m17 i) <;> first | rfl | simp only [PXb, PXc, PXn, PXm, Nat.reduceAdd, Int.reduceBEq]
  ·cases Ak (JL (⟨⟨m0, m1, m2, m3, m4, m5, m6, m7, m8, m9, m10, m11, m12, m13⟩, m14, m15, m16, m17, m18, m19, m20, m21, m22⟩ : Mat)) m17.length 0
   case true => rfl
   simp only [PXb, PXc, PXn, PXm, Nat.reduceAdd, Int.reduceBEq, Ih, jU hN (show m17.length ≤ 1048576 by omega)]
theorem nY (f g : Nat → Bool) : ∀ k i, Ak (fun j => f j || g j) k i = (Ak f k i || Ak g k i)
 | 0, i => rfl
 | k + 1, i => by
  rw [BJ, BJ, BJ, nY f g k (i + 1)]
  cases f i <;> cases g i <;> cases Ak f k (i + 1) <;> cases Ak g k (i + 1) <;> rfl
theorem dx {N : Nat} {m1 m2 m3 m4 m5 m6 m7 m9 m10 m11 m12 m14 m15 m18 m19 m20 m21 m22 : Int} {m8 m16 : Bool} {m0 : ByteArray} {m13 : Rows} {m17 : List Inn} (hf : DE m17) (hN : 2097152 < N) (hl : m17.length ≤ 4) (hs : m0.size ≤ 1048576) : FJ N [.str m0, .int m1, .int m2, .int m3, .int m4, .int m5, .int m6, .int m7, .bool m8, .int m9, .int m10, .int m11, .int m12, .rows m13, .int m14, .int m15, .bool m16, .rows (AR m17), .int m18, .int m19, .int m20, .int m21, .int m22] = some [.bool (!Ak (JL (⟨⟨m0, m1, m2, m3, m4, m5, m6, m7, m8, m9, m10, m11, m12, m13⟩, m14, m15, m16, m17, m18, m19, m20, m21, m22⟩ : Mat)) m17.length 0 && !Ak (KX m14 m17) m17.length 0)] := by
 show IV (std (F8 N) N) (xOf _) = _
 generalize hres : (some [.bool (!Ak (JL (⟨⟨m0, m1, m2, m3, m4, m5, m6, m7, m8, m9, m10, m11, m12, m13⟩, m14, m15, m16, m17, m18, m19, m20, m21, m22⟩ : Mat)) m17.length 0 && !Ak (KX m14 m17) m17.length 0)] : Option (List PV)) = RR
 simp only [IV, Hh, IL, std, xOf, PXb, PXi]
 subst hres
 rw [← Bool.not_or, ← nY]
 refine AN (Bc (len := m17.length) (fun j => JL (⟨⟨m0, m1, m2, m3, m4, m5, m6, m7, m8, m9, m10, m11, m12, m13⟩, m14, m15, m16, m17, m18, m19, m20, m21, m22⟩ : Mat) j || KX m14 m17 j) [.bool false] ?_ ?_ N (by omega)) ?_
 ·intro self
  simp only [PXb, PXc, PXn, AA, As]
 ·intro i self hi
  have hi3 : 0 ≤ (i : Int) ∧ (i : Int) ≤ 3 := by omega
  simp only [PXb, PXc, PXn, PXm, Nat.reduceAdd, Int.reduceBEq, AW (show i ≤ 1099511627776 by omega), Am hi, AX hi, PXi, IL, Hh, bl (hf i hi) hN hs, aA hi3, JL, KX]
  cases GE (⟨⟨m0, m1, m2, m3, m4, m5, m6, m7, m8, m9, m10, m11, m12, m13⟩, m14, m15, m16, m17, m18, m19, m20, m21, m22⟩ : Mat).rules (inn m17 i) <;> rfl
 ·cases Ak (fun j => JL (⟨⟨m0, m1, m2, m3, m4, m5, m6, m7, m8, m9, m10, m11, m12, m13⟩, m14, m15, m16, m17, m18, m19, m20, m21, m22⟩ : Mat) j || KX m14 m17 j) m17.length 0 <;> rfl
set_option maxHeartbeats 4000000 in
theorem Uf {N : Nat} {m1 m2 m3 m4 m5 m6 m7 m9 m10 m11 m12 m14 m15 m18 m19 m20 m21 m22 : Int} {m8 m16 : Bool} {m0 : ByteArray} {m13 : Rows} {m17 : List Inn} (hf : DE m17) (hN : 2097152 < N) (hl : m17.length ≤ 1000000) (hs : m0.size ≤ 1048576) : ED N [.str m0, .int m1, .int m2, .int m3, .int m4, .int m5, .int m6, .int m7, .bool m8, .int m9, .int m10, .int m11, .int m12, .rows m13, .int m14, .int m15, .bool m16, .rows (AR m17), .int m18, .int m19, .int m20, .int m21, .int m22] = some [.bool (Cq (⟨⟨m0, m1, m2, m3, m4, m5, m6, m7, m8, m9, m10, m11, m12, m13⟩, m14, m15, m16, m17, m18, m19, m20, m21, m22⟩ : Mat))] := by
 show Ow (std (LG N) N) (xOf _) = _
 generalize hres : (some [.bool (Cq (⟨⟨m0, m1, m2, m3, m4, m5, m6, m7, m8, m9, m10, m11, m12, m13⟩, m14, m15, m16, m17, m18, m19, m20, m21, m22⟩ : Mat))] : Option (List PV)) = RR
 simp only [Ow, V6, IY, std, xOf, PXb, H5 hN hs, PXi]
 subst hres; simp only [Cq, js]
 cases hc : Bd (⟨⟨m0, m1, m2, m3, m4, m5, m6, m7, m8, m9, m10, m11, m12, m13⟩, m14, m15, m16, m17, m18, m19, m20, m21, m22⟩ : Mat).rules == 0
 case false => simp only [PXb, PXc, PXn, PXm, Nat.reduceAdd, Int.reduceBEq]
 have rk := (Ja (beq_iff_eq.1 hc)).innings
 simp only at rk
 have e2 : IntKind.i64.wrap (2 * m2) = 2 * m2 := FY (by omega) (by omega)
 have e4 : (2 * m2 == 4) = (m2 == 2) := by rw [Bool.eq_iff_iff, beq_iff_eq, beq_iff_eq]; omega
 simp only [e2, e4]
 cases h1 : iLt m14 1
 case true => simp only [PXb, PXc, PXn, PXm, Nat.reduceAdd, Int.reduceBEq]
 cases h5 : iLt 5 m14
 case true => simp only [PXb, PXc, PXn, PXm, Nat.reduceAdd, Int.reduceBEq]
 cases hm : iLt (2 * m2) (m17.length : Int)
 case true => simp only [PXb, PXc, PXn, PXm, Nat.reduceAdd, Int.reduceBEq]
 have h4 : m17.length ≤ 4 := by
  simp only [iLt, decide_eq_false_iff_not] at hm
  omega
 simp only [PXb]
 refine AN (Bc (len := 2) (fun i => iLt (cond ((i : Int) == 1) m19 m18) 0 || iLt 1000000 (cond ((i : Int) == 1) m19 m18)) [.bool false] ?_ ?_ N (by omega)) ?_
 ·intro self
  rfl
 ·intro i self hi
  simp only [PXb, AW (show i ≤ 1099511627776 by omega), show iLt (i : Int) 2 = true from Am (len := 2) hi, show iIn (i : Int) 2 = true from AX (len := 2) hi]
 ·have hp : Ak (fun i => iLt (cond ((i : Int) == 1) m19 m18) 0 || iLt 1000000 (cond ((i : Int) == 1) m19 m18)) 2 0 = Z6 (⟨⟨m0, m1, m2, m3, m4, m5, m6, m7, m8, m9, m10, m11, m12, m13⟩, m14, m15, m16, m17, m18, m19, m20, m21, m22⟩ : Mat) := by
   simp only [BJ, Gz, Bool.or_false]
   rfl
  rw [hp]
  cases Z6 (⟨⟨m0, m1, m2, m3, m4, m5, m6, m7, m8, m9, m10, m11, m12, m13⟩, m14, m15, m16, m17, m18, m19, m20, m21, m22⟩ : Mat)
  case true => rfl
  simp only [PXb, CF, Int.reduceBEq, IY, dx hf hN h4 hs, VQ, gG (show (0 : Int) ≤ (m17.length : Int) by omega)]
  generalize Ak (JL (⟨⟨m0, m1, m2, m3, m4, m5, m6, m7, m8, m9, m10, m11, m12, m13⟩, m14, m15, m16, m17, m18, m19, m20, m21, m22⟩ : Mat)) m17.length 0 = q1
  generalize Ak (KX m14 m17) m17.length 0 = q2
  generalize (m15 == 0 && (!((m17.length : Int) == 0) || (!(m14 == 1) && !(m14 == 5)))) = q3
  generalize (m14 == 1 && !(m15 == 0)) = q4
  generalize (m14 == 2 && (m17.length : Int) == 2 * m2) = q5
  cases iLt m15 0 <;> cases iLt 2 m15 <;> cases q3 <;> cases q4 <;> cases q5 <;> try (simp only [PXb, PXc, PXn, PXm, Nat.reduceAdd, Int.reduceBEq]; done)
  cases m14 == 3 <;> cases (m17.length : Int) == 0 <;> cases m14 == 4 <;> cases m2 == 2 <;> cases (m17.length : Int) == 2 <;> cases m16 <;> cases iLt (m17.length : Int) 2 <;> cases q1 <;> cases q2 <;> rfl
end Go.Px
end
