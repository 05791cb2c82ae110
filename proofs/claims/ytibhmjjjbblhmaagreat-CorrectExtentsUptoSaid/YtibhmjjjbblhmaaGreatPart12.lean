/- Part 12. -/
import Derived.Test.YtibhmjjjbblhmaaGreatPart11
import Derived.Test.YtibhmjjjbblhmaaGreatPart07
set_option linter.unusedVariables false
set_option linter.unusedSimpArgs false
section
namespace Go.Px
set_option maxRecDepth 100000
set_option maxHeartbeats 4000000 in
theorem Zw {N : Nat} {r1 r2 r3 r4 r5 r6 r7 r9 r10 r11 r12 : Int} {r8 : Bool} {r0 : ByteArray} {r13 : Rows} {s0 s1 s2 s3 s4 s5 s6 s7 s8 s9 s10 s11 s12 s13 s15 s21 s22 s23 s25 s26 s27 : Int} {s18 s20 : Bool} {s14 s16 s17 s19 s24 : Rows} {e0 e1 e2 e3 e5 e6 e7 e8 e9 e10 e11 e13 e14 e15 e16 e18 : Int} {e4 e12 e17 : Bool} (h : Fit s14 s16 s17 s19 s24) (hw : s17.length + s16.length ≤ 1000000) (hN : 2097152 < N) (hs : r0.size ≤ 1048576) (h13 : r13.length ≤ 1048576) : IM N [.str r0, .int r1, .int r2, .int r3, .int r4, .int r5, .int r6, .int r7, .bool r8, .int r9, .int r10, .int r11, .int r12, .rows r13, .int s0, .int s1, .int s2, .int s3, .int s4, .int s5, .int s6, .int s7, .int s8, .int s9, .int s10, .int s11, .int s12, .int s13, .rows s14, .int s15, .rows s16, .rows s17, .bool s18, .rows s19, .bool s20, .int s21, .int s22, .int s23, .rows s24, .int s25, .int s26, .int s27, .int e0, .int e1, .int e2, .int e3, .bool e4, .int e5, .int e6, .int e7, .int e8, .int e9, .int e10, .int e11, .bool e12, .int e13, .int e14, .int e15, .int e16, .bool e17, .int e18] = some (AX (Ct (⟨r0, r1, r2, r3, r4, r5, r6, r7, r8, r9, r10, r11, r12, r13⟩ : Rul) (⟨s0, s1, s2, s3, s4, s5, s6, s7, s8, s9, s10, s11, s12, s13, s14, s15, s16, s17, s18, s19, s20, s21, s22, s23, s24, s25, s26, s27⟩ : Inn) (⟨e0, e1, e2, e3, e4, e5, e6, ⟨e7, e8, e9, e10, e11, e12, e13, e14, e15, e16, e17, e18⟩⟩ : Ev))) := by
 show Ns (std (CD N) N) (xOf _) = _
 generalize hres : (some (AX (Ct (⟨r0, r1, r2, r3, r4, r5, r6, r7, r8, r9, r10, r11, r12, r13⟩ : Rul) (⟨s0, s1, s2, s3, s4, s5, s6, s7, s8, s9, s10, s11, s12, s13, s14, s15, s16, s17, s18, s19, s20, s21, s22, s23, s24, s25, s26, s27⟩ : Inn) (⟨e0, e1, e2, e3, e4, e5, e6, ⟨e7, e8, e9, e10, e11, e12, e13, e14, e15, e16, e17, e18⟩⟩ : Ev))) : Option (List PV)) = RR
 have l1 := US (⟨r0, r1, r2, r3, r4, r5, r6, r7, r8, r9, r10, r11, r12, r13⟩ : Rul) (⟨s0, s1, s2, s3, s4, s5, s6, s7, s8, s9, s10, s11, s12, s13, s14, s15, s16, s17, s18, s19, s20, s21, s22, s23, s24, s25, s26, s27⟩ : Inn) (⟨e0, e1, e2, e3, e4, e5, e6, ⟨e7, e8, e9, e10, e11, e12, e13, e14, e15, e16, e17, e18⟩⟩ : Ev)
 have f1 := LT l1 h (by simp only; omega)
 simp only [Ns, Y5, Yn, ZE, Y2, KE, NS, std, xOf, PXb, XV h, fN h hN hs, gY, W5 h.bt hN]
 subst hres; simp only [Ct, tZ]
 cases Hn (⟨r0, r1, r2, r3, r4, r5, r6, r7, r8, r9, r10, r11, r12, r13⟩ : Rul) (⟨s0, s1, s2, s3, s4, s5, s6, s7, s8, s9, s10, s11, s12, s13, s14, s15, s16, s17, s18, s19, s20, s21, s22, s23, s24, s25, s26, s27⟩ : Inn)
 ·rfl
 cases he : evS (⟨e0, e1, e2, e3, e4, e5, e6, ⟨e7, e8, e9, e10, e11, e12, e13, e14, e15, e16, e17, e18⟩⟩ : Ev) == 0
 ·simp only [PXb, PXc, PXn, PXm, Nat.reduceAdd, Int.reduceBEq, he]
 simp only [PXb, PXc, PXn, PXm, Nat.reduceAdd, Int.reduceBEq, he]
 cases s27 == 0 <;> try rfl
 cases h2 : e0 == 2 <;> cases h1 : e0 == 1 <;> cases hc : e0 == 12 <;> cases hd : e0 == 16 <;> cases CU s14 <;> try rfl
 all_goals first
  | (rw [P8 h2 (c := 1) rfl] at h1; exact absurd h1 (by decide))
  | (rw [P8 h2 (c := 12) rfl] at hc; exact absurd hc (by decide))
  | (rw [P8 h2 (c := 16) rfl] at hd; exact absurd hd (by decide))
  | (simp only [PXb, PXc, PXn, PXm, Nat.reduceAdd, Int.reduceBEq, KE, mv h hw hN hs h13 he, mH, h1, hc, hd]; done)
  | skip
 all_goals (simp only [PXb, PXc, PXn, PXm, Nat.reduceAdd, Int.reduceBEq, KE, NS, mv h hw hN hs h13 he, mH, h1, hc, hd, oq f1 hN hs])
 all_goals (unfold eY jS; cases (C8 (⟨r0, r1, r2, r3, r4, r5, r6, r7, r8, r9, r10, r11, r12, r13⟩ : Rul) (⟨s0, s1, s2, s3, s4, s5, s6, s7, s8, s9, s10, s11, s12, s13, s14, s15, s16, s17, s18, s19, s20, s21, s22, s23, s24, s25, s26, s27⟩ : Inn) (⟨e0, e1, e2, e3, e4, e5, e6, ⟨e7, e8, e9, e10, e11, e12, e13, e14, e15, e16, e17, e18⟩⟩ : Ev)).2 == 0 <;> cases (C8 (⟨r0, r1, r2, r3, r4, r5, r6, r7, r8, r9, r10, r11, r12, r13⟩ : Rul) (⟨s0, s1, s2, s3, s4, s5, s6, s7, s8, s9, s10, s11, s12, s13, s14, s15, s16, s17, s18, s19, s20, s21, s22, s23, s24, s25, s26, s27⟩ : Inn) (⟨e0, e1, e2, e3, e4, e5, e6, ⟨e7, e8, e9, e10, e11, e12, e13, e14, e15, e16, e17, e18⟩⟩ : Ev)).1.ending == 0 <;> rfl)
def eqL (L M : Rows) : Bool := ((L.length : Int) == (M.length : Int)) && !Ah (fun i => !(atI L i 0 == atI M i 0)) L.length 0
def eqB (L M : Rows) : Bool := ((L.length : Int) == (M.length : Int)) && !Ah (fun i => !(atB L i 0 == atB M i 0)) L.length 0
def eqN (s t : Inn) : Bool := s.side == t.side && s.target == t.target && s.overs == t.overs && s.runs == t.runs && s.wickets == t.wickets && (s.wides == t.wides && (s.noballs == t.noballs && (s.byes == t.byes && (s.legbyes == t.legbyes && s.pens == t.pens)))) && s.complete == t.complete && s.inover == t.inover && s.striker == t.striker && s.other == t.other && s.bowler == t.bowler && s.fresh == t.fresh && s.freehit == t.freehit && s.ballage == t.ballage && s.keeper == t.keeper && s.outside == t.outside && s.rev1 == t.rev1 && s.rev2 == t.rev2 && s.ending == t.ending
def K2 (s t : Inn) : Bool := eqL s.batters t.batters && (eqB s.subs t.subs && (eqL s.bowlers t.bowlers && (eqL s.before t.before && (eqL s.bowled t.bowled && eqN s t))))
theorem wD (L : Rows) : eqL L L = true := by
 unfold eqL
 rw [beq_self_eq_true, GX.2 (fun j _ _ => by rw [beq_self_eq_true]; rfl)]
 rfl
theorem v9 (L : Rows) : eqB L L = true := by
 unfold eqB
 rw [beq_self_eq_true, GX.2 (fun j _ _ => by rw [beq_self_eq_true]; rfl)]
 rfl
theorem vO (s : Inn) : K2 s s = true := by
 unfold K2 eqN
 simp only [wD, v9, beq_self_eq_true, Bool.and_self]
theorem NG {i len : Nat} {m : Nat} (h : ((len : Int) == (m : Int)) = true) (hi : i < len) : iIn (i : Int) (m : Int) = true := by
 have := beq_iff_eq.1 h
 exact AP (by omega)
theorem Zb {N : Nat} {L : Rows} {M : Rows} (hN : 2097152 < N) (hl : L.length ≤ 1048576) : Oa N [.rows L, .rows M] = some [.bool (eqL L M)] := by
 show TT (std (eK N) N) (xOf _) = _
 simp only [TT, std, xOf, PXb, PXc, PXn, AA]
 unfold eqL
 cases hm : (L.length : Int) == (M.length : Int) with
 | false => rfl
 | true =>
  simp only [PXb, PXc, PXn, AA]
  refine AK (A7 (len := L.length) (fun i => !(atI L i 0 == atI M i 0)) [.bool false] ?_ ?_ N (by omega)) ?_
  ·intro self
   simp only [PXb, PXc, PXn, AA, Aj]
  ·intro i self hi
   simp only [PXb, PXc, PXn, AA, AN (show i ≤ 1099511627776 by omega), Ae hi, AP hi, NG hm hi, A2]
  ·cases Ah (fun i => !(atI L i 0 == atI M i 0)) L.length 0 <;> rfl
set_option maxHeartbeats 4000000 in
theorem sj {N : Nat} {s0 s1 s2 s3 s4 s5 s6 s7 s8 s9 s10 s11 s12 s13 s15 s21 s22 s23 s25 s26 s27 : Int} {s18 s20 : Bool} {s14 s16 s17 s19 s24 : Rows} {t0 t1 t2 t3 t4 t5 t6 t7 t8 t9 t10 t11 t12 t13 t15 t21 t22 t23 t25 t26 t27 : Int} {t18 t20 : Bool} {t14 t16 t17 t19 t24 : Rows} (h : Fit s14 s16 s17 s19 s24) (hN : 2097152 < N) : O6 N [.int s0, .int s1, .int s2, .int s3, .int s4, .int s5, .int s6, .int s7, .int s8, .int s9, .int s10, .int s11, .int s12, .int s13, .rows s14, .int s15, .rows s16, .rows s17, .bool s18, .rows s19, .bool s20, .int s21, .int s22, .int s23, .rows s24, .int s25, .int s26, .int s27, .int t0, .int t1, .int t2, .int t3, .int t4, .int t5, .int t6, .int t7, .int t8, .int t9, .int t10, .int t11, .int t12, .int t13, .rows t14, .int t15, .rows t16, .rows t17, .bool t18, .rows t19, .bool t20, .int t21, .int t22, .int t23, .rows t24, .int t25, .int t26, .int t27] = some [.bool (K2 (⟨s0, s1, s2, s3, s4, s5, s6, s7, s8, s9, s10, s11, s12, s13, s14, s15, s16, s17, s18, s19, s20, s21, s22, s23, s24, s25, s26, s27⟩ : Inn) (⟨t0, t1, t2, t3, t4, t5, t6, t7, t8, t9, t10, t11, t12, t13, t14, t15, t16, t17, t18, t19, t20, t21, t22, t23, t24, t25, t26, t27⟩ : Inn))] := by
 show TA (std (UH N) N) (xOf _) = _
 generalize hres : (some [.bool (K2 (⟨s0, s1, s2, s3, s4, s5, s6, s7, s8, s9, s10, s11, s12, s13, s14, s15, s16, s17, s18, s19, s20, s21, s22, s23, s24, s25, s26, s27⟩ : Inn) (⟨t0, t1, t2, t3, t4, t5, t6, t7, t8, t9, t10, t11, t12, t13, t14, t15, t16, t17, t18, t19, t20, t21, t22, t23, t24, t25, t26, t27⟩ : Inn))] : Option (List PV)) = RR
 simp only [TA, bV, std, xOf, PXb, Zb hN h.bw', Zb hN h.bf, Zb hN h.bd]
 subst hres; simp only [K2, eqN]
 rw [show eqL s14 t14 = (((s14.length : Int) == (t14.length : Int)) && !Ah (fun i => !(atI s14 i 0 == atI t14 i 0)) s14.length 0) from rfl,
  show eqB s24 t24 = (((s24.length : Int) == (t24.length : Int)) && !Ah (fun i => !(atB s24 i 0 == atB t24 i 0)) s24.length 0) from rfl]
 cases hm : (s14.length : Int) == (t14.length : Int) with
 | false => rfl
 | true =>
  cases hk : (s24.length : Int) == (t24.length : Int) with
  | false => simp only [PXb, PXc, PXn, PXm, Nat.reduceAdd, Int.reduceBEq]
  | true =>
   simp only [PXb, PXc, PXn, PXm, Nat.reduceAdd, Int.reduceBEq]
   cases eqL s16 t16 <;> try (simp only [PXb, PXc, PXn, PXm, Nat.reduceAdd, Int.reduceBEq]; done)
   cases eqL s17 t17 <;> try (simp only [PXb, PXc, PXn, PXm, Nat.reduceAdd, Int.reduceBEq]; done)
   cases eqL s19 t19 <;> try (simp only [PXb, PXc, PXn, PXm, Nat.reduceAdd, Int.reduceBEq]; done)
   simp only [PXb]
   refine AK (A7 (len := s14.length) (fun i => !(atI s14 i 0 == atI t14 i 0)) [.bool false] ?_ ?_ N (by have := h.bt; omega)) ?_
   ·intro self
    simp only [PXb, PXc, PXn, AA, Aj]
   ·intro i self hi
    have hb := h.bt
    simp only [PXb, PXc, PXn, AA, AN (show i ≤ 1099511627776 by omega), Ae hi, AP hi, NG hm hi, A2]
   ·cases Ah (fun i => !(atI s14 i 0 == atI t14 i 0)) s14.length 0 with
    | true => rfl
    | false =>
     simp only [PXb, PXc, PXn, PXm, Nat.reduceAdd, Int.reduceBEq]
     refine AK (A7 (len := s24.length) (fun i => !(atB s24 i 0 == atB t24 i 0)) [.bool false] ?_ ?_ N (by have := h.sb; omega)) ?_
     ·intro self
      simp only [PXb, PXc, PXn, AA, Aj]
     ·intro i self hi
      have hb := h.sb
      simp only [PXb, PXc, PXn, AA, AN (show i ≤ 1099511627776 by omega), Ae hi, AP hi, NG hk hi, YC]
     ·cases Ah (fun i => !(atB s24 i 0 == atB t24 i 0)) s24.length 0 with
      | true => rfl
      | false => simp only [PXb, PXc, PXn, PXm, Nat.reduceAdd, Int.reduceBEq]
theorem ut (L : Rows) (c : Nat) : (cut L c).length ≤ c := by
 unfold cut
 rw [List.length_drop, List.length_take]
 cases h : iLt (c : Int) (L.length : Int) with
 | true => simp only [cond_true]; omega
 | false => simp only [iLt, decide_eq_false_iff_not] at h; simp only [cond_false]; omega
theorem ra {s t : Inn} (r : Rul) (b : Bool) (h : Lens s t) : Lens s (eY r t b) := ⟨h.bt, h.bd, h.sb, h.bw, h.bf⟩
theorem WB (r : Rul) (s : Inn) (e : Ev) : Lens s (Ct r s e).1 := by
 unfold Ct
 exact L_c _ _ _ (Lens.refl s) (L_c _ _ _ (Lens.refl s) (L_c _ _ _ (Lens.refl s) (L_c _ _ _ (Lens.refl s) (ra r _ (US r s e)))))
end Go.Px
end
section
namespace Go.Px
set_option maxRecDepth 100000
theorem eO {x a b : Int} : btw x a b = true ↔ a ≤ x ∧ x ≤ b := by simp [btw, iLe]
structure RulOk (r : Rul) : Prop where
 side : 2 ≤ r.side ∧ r.side ≤ 11
 innings : 1 ≤ r.innings ∧ r.innings ≤ 2
 overs : 0 ≤ r.overs ∧ r.overs ≤ 90
 balls : 4 ≤ r.balls ∧ r.balls ≤ 8
 quota : 0 ≤ r.quota ∧ r.quota ≤ 90
 wide : 1 ≤ r.wide ∧ r.wide ≤ 5
 noball : 1 ≤ r.noball ∧ r.noball ≤ 5
 newball : 0 ≤ r.newball ∧ r.newball ≤ 200
 followon : 0 ≤ r.followon ∧ r.followon ≤ 1000
 reviews : 0 ≤ r.reviews ∧ r.reviews ≤ 9
 outside : 0 ≤ r.outside ∧ r.outside ≤ 11
theorem Kr {r : Rul} (h : Ax r = 0) : RulOk r := by
 unfold Ax Dx at h
 cases hn : LX r.name with
 | false => rw [hn] at h; cases h
 | true =>
  cases hr : Ga r.side r.innings r.overs r.balls r.quota r.wide r.noball r.newball r.followon r.reviews r.outside with
  | false => rw [hn, hr] at h; cases h
  | true =>
   unfold Ga at hr
   simp only [Bool.and_eq_true, eO] at hr
   obtain ⟨⟨⟨⟨⟨⟨⟨⟨⟨⟨h1, h2⟩, h3⟩, h4⟩, h5⟩, h6⟩, h7⟩, h8⟩, h9⟩, h10⟩, h11⟩ := hr
   exact ⟨h1, h2, h3, h4, h5, h6, h7, h8, h9, h10, h11⟩
def CZ (x : Int) : Prop := 0 ≤ x ∧ x ≤ 1000000000
structure InnOk (r : Rul) (s : Inn) : Prop where
 code : Ax r = 0
 side : 1 ≤ s.side ∧ s.side ≤ 2
 lb : (s.batters.length : Int) = r.side
 ld : (s.bowled.length : Int) = r.side
 lz : (s.subs.length : Int) = r.side
 ending : s.ending ≤ 5
 st : 0 ≤ s.striker ∧ s.striker ≤ r.side
 ot : 0 ≤ s.other ∧ s.other ≤ r.side
 bat : WN s.batters s.striker s.other s.wickets = true
 bow : 0 ≤ s.bowler ∧ s.bowler ≤ r.side
 kee : 0 ≤ s.keeper ∧ s.keeper ≤ r.side
 dw : GE s.bowlers r.side = true
 df : GE s.before r.side = true
 ov : M8 r.overs s.overs = true
 io : 0 ≤ s.inover ∧ s.inover ≤ r.balls - 1
 target : CZ s.target
 runs : CZ s.runs
 wides : CZ s.wides
 noballs : CZ s.noballs
 byes : CZ s.byes
 legbyes : CZ s.legbyes
 pens : CZ s.pens
 complete : CZ s.complete
 ballage : CZ s.ballage
 outside : CZ s.outside
 rev1 : CZ s.rev1
 rev2 : CZ s.rev2
 bowled : LM DC s.bowled = false
theorem xj {x : Int} : DC x = false ↔ CZ x := by
 unfold DC CZ
 rw [Bool.not_eq_false', eO]
theorem wc (a b c d e f g h i j k l : Int) : LM DC (ZK a b c d e f g h i j k l) = false ↔ CZ a ∧ CZ b ∧ CZ c ∧ CZ d ∧ CZ e ∧ CZ f ∧ CZ g ∧ CZ h ∧ CZ i ∧ CZ j ∧ CZ k ∧ CZ l := by
 rw [QO]
 simp only [ZK, List.any_cons, List.any_nil, Bool.or_false, me, xX, Bool.or_eq_false_iff, xj]
theorem kr {r : Rul} (h : RulOk r) : IntKind.i64.wrap (r.balls - 1) = r.balls - 1 := by
 have := h.balls
 exact EZ (by omega) (by omega)
theorem sT {x : Int} : (!iLt 5 x) = true ↔ x ≤ 5 := by
 rw [Bool.not_eq_true']
 simp only [iLt, decide_eq_false_iff_not]
 omega
theorem vi {r : Rul} {s : Inn} : Hn r s = true ↔ InnOk r s := by
 unfold Hn Lw
 simp only [Bool.and_eq_true, Bool.not_eq_true', wc, eO]
 constructor
 ·intro ⟨h1, h2, h3, h4, h5, h6, h7, h8, h9, h10, h11, h12, h13, h14, h15, ⟨n1, n2, n3, n4, n5, n6, n7, n8, n9, n10, n11, n12⟩, h17⟩
  have hc : Ax r = 0 := beq_iff_eq.1 h1
  exact ⟨hc, h2, beq_iff_eq.1 h3, beq_iff_eq.1 h4, beq_iff_eq.1 h5, sT.1 (by rw [h6]; rfl), h7, h8, h9, h10, h11, h12, h13, h14, by rw [kr (Kr hc)] at h15; exact h15, n1, n2, n3, n4, n5, n6, n7, n8, n9, n10, n11, n12, h17⟩
 ·intro h
  have h6 := sT.2 h.ending
  rw [Bool.not_eq_true'] at h6
  exact ⟨beq_iff_eq.2 h.code, h.side, beq_iff_eq.2 h.lb, beq_iff_eq.2 h.ld, beq_iff_eq.2 h.lz, h6, h.st, h.ot, h.bat, h.bow, h.kee, h.dw, h.df, h.ov, by rw [kr (Kr h.code)]; exact h.io,
   ⟨h.target, h.runs, h.wides, h.noballs, h.byes, h.legbyes, h.pens, h.complete, h.ballage, h.outside, h.rev1, h.rev2⟩, h.bowled⟩
end Go.Px
end
section
namespace Go.Px
set_option maxRecDepth 100000
def xB : Inn := ⟨0, 0, 0, 0, 0, 0, 0, 0, 0, 0, 0, 0, 0, 0, [], 0, [], [], false, [], false, 0, 0, 0, [], 0, 0, 0⟩
def xD (n : Nat) (overs side t p : Int) : Inn := ⟨side, t, overs, p, 0, 0, 0, 0, 0, p, 0, 0, 0, 0, List.replicate n [.int 0], 0, [], [], false, List.replicate n [.int 0], false, 0, 0, 0, List.replicate n [.bool false], 0, 0, 0⟩
def Bn (r : Rul) (side t p : Int) : Inn × Int :=
 cond (!(Ax r == 0)) (xB, Ax r) (cond (!btw side 1 2 || !btw t 0 1000000 || !btw p 0 1000000) (xB, 2) (xD r.side.toNat r.overs side t p, 0))
theorem WP {N : Nat} {r1 r2 r3 r4 r5 r6 r7 r9 r10 r11 r12 : Int} {r8 : Bool} {r0 : ByteArray} {r13 : Rows} {a : Int} {b : Int} {c : Int} (hN : 2097152 < N) (hs : r0.size ≤ 1048576) : GW N [.str r0, .int r1, .int r2, .int r3, .int r4, .int r5, .int r6, .int r7, .bool r8, .int r9, .int r10, .int r11, .int r12, .rows r13, .int a, .int b, .int c] = some (AX (Bn (⟨r0, r1, r2, r3, r4, r5, r6, r7, r8, r9, r10, r11, r12, r13⟩ : Rul) a b c)) := by
 show JQ (std (G0 N) N) (xOf _) = _
 generalize hres : (some (AX (Bn (⟨r0, r1, r2, r3, r4, r5, r6, r7, r8, r9, r10, r11, r12, r13⟩ : Rul) a b c)) : Option (List PV)) = RR
 simp only [JQ, RY, NU, std, xOf, PXb, DI hN hs, Dy]
 subst hres; simp only [Bn]
 cases hc : Ax (⟨r0, r1, r2, r3, r4, r5, r6, r7, r8, r9, r10, r11, r12, r13⟩ : Rul) == 0 with
 | false => rfl
 | true =>
  have rk := (Kr (beq_iff_eq.1 hc)).side
  obtain ⟨k, hk⟩ : ∃ k : Nat, r1 = k := ⟨r1.toNat, by simp only at rk; omega⟩
  subst hk
  simp only at rk
  have h1 : iSm (k : Int) 1 = true := Gx (by omega) (by omega)
  have h8 : iSm (k : Int) 8 = true := Gx (by omega) (by omega)
  simp only [PXb, PXc, PXn, PXm, Nat.reduceAdd, Int.reduceBEq, h1, h8]
  cases btw a 1 2 <;> cases btw b 0 1000000 <;> cases btw c 0 1000000 <;> rfl
theorem gA {N : Nat} {r1 r2 r3 r4 r5 r6 r7 r9 r10 r11 r12 : Int} {r8 : Bool} {r0 : ByteArray} {r13 : Rows} {a : Int} {b : Int} {c : Int} (hN : 2097152 < N) (hs : r0.size ≤ 1048576) : Qw N [.str r0, .int r1, .int r2, .int r3, .int r4, .int r5, .int r6, .int r7, .bool r8, .int r9, .int r10, .int r11, .int r12, .rows r13, .int a, .int b, .int c] = some (AX (Bn (⟨r0, r1, r2, r3, r4, r5, r6, r7, r8, r9, r10, r11, r12, r13⟩ : Rul) a b c)) := by
 show Q8 (std (Ma N) N) (xOf _) = _
 generalize hres : (some (AX (Bn (⟨r0, r1, r2, r3, r4, r5, r6, r7, r8, r9, r10, r11, r12, r13⟩ : Rul) a b c)) : Option (List PV)) = RR
 simp only [Q8, X4, dQ, std, xOf, PXb, Dl hN hs, dp]
 subst hres; simp only [Bn]
 cases hc : Ax (⟨r0, r1, r2, r3, r4, r5, r6, r7, r8, r9, r10, r11, r12, r13⟩ : Rul) == 0 with
 | false => rfl
 | true =>
  have rk := (Kr (beq_iff_eq.1 hc)).side
  obtain ⟨k, hk⟩ : ∃ k : Nat, r1 = k := ⟨r1.toNat, by simp only at rk; omega⟩
  subst hk
  simp only at rk
  simp only [PXb]
  cases btw a 1 2 <;> try rfl
  cases btw b 0 1000000 <;> try rfl
  cases btw c 0 1000000 <;> try rfl
  simp only [PXb]
  refine AK (Dg (len := k) (fun i => [.int (i : Int), .int a, .int b, .int r3, .int c, .int 0, .int 0, .int 0, .int 0, .int 0, .int c, .int 0, .int 0, .int 0, .int 0, .rows (List.replicate i [.int 0]), .int 0, .rows [], .rows [], .bool false, .rows (List.replicate i [.int 0]), .bool false, .int 0, .int 0, .int 0, .rows (List.replicate i [.bool false]), .int 0, .int 0, .int 0]) (xD k r3 a b c).ls ?_ ?_ N (by omega)) rfl
  ·intro self
   simp only [PXb, PXc, PXn, PXm, Nat.reduceAdd, Int.reduceBEq, Aj]
   rfl
  ·intro i self hi
   have l1 : (List.replicate i [PV.int 0] ++ [[PV.int 0]]).length ≤ 1048576 := by simp; omega
   have l2 : (List.replicate i [PV.bool false] ++ [[PV.bool false]]).length ≤ 1048576 := by simp; omega
   simp only [PXb, PXc, PXn, PXm, Nat.reduceAdd, Int.reduceBEq, AN (show i ≤ 1099511627776 by omega), Ae hi, KO l1 (show 1 ≤ 4096 by omega), KO l1 (show 8 ≤ 4096 by omega), KO l2 (show 1 ≤ 4096 by omega)]
   rw [List.replicate_succ', List.replicate_succ']
   rfl
theorem KU {N : Nat} {L : Rows} {M : Rows} (hN : 2097152 < N) (hl : L.length ≤ 1048576) : D2 N [.rows L, .rows M] = some [.bool (eqL L M)] := by
 show F5 (std (OM N) N) (xOf _) = _
 simp only [F5, std, xOf, PXb, PXc, PXn, AA]
 unfold eqL
 cases hm : (L.length : Int) == (M.length : Int) with
 | false => rfl
 | true =>
  simp only [PXb, PXc, PXn, AA]
  refine AK (A7 (len := L.length) (fun i => !(atI L i 0 == atI M i 0)) [.bool false] ?_ ?_ N (by omega)) ?_
  ·intro self
   simp only [PXb, PXc, PXn, AA, Aj]
  ·intro i self hi
   simp only [PXb, PXc, PXn, AA, AN (show i ≤ 1099511627776 by omega), Ae hi, AP hi, NG hm hi, A2]
  ·cases Ah (fun i => !(atI L i 0 == atI M i 0)) L.length 0 <;> rfl
theorem Xc {N : Nat} {L : Rows} {M : Rows} (hN : 2097152 < N) (hl : L.length ≤ 1048576) : C2 N [.rows L, .rows M] = some [.bool (eqL L M)] := by
 show ED (std (LC N) N) (xOf _) = _
 simp only [ED, std, xOf, PXb, PXc, PXn, AA]
 unfold eqL
 cases hm : (L.length : Int) == (M.length : Int) with
 | false => rfl
 | true =>
  simp only [PXb, PXc, PXn, AA]
  refine AK (A7 (len := L.length) (fun i => !(atI L i 0 == atI M i 0)) [.bool false] ?_ ?_ N (by omega)) ?_
  ·intro self
   simp only [PXb, PXc, PXn, AA, Aj]
  ·intro i self hi
   simp only [PXb, PXc, PXn, AA, AN (show i ≤ 1099511627776 by omega), Ae hi, AP hi, NG hm hi, A2]
  ·cases Ah (fun i => !(atI L i 0 == atI M i 0)) L.length 0 <;> rfl
theorem bQ {N : Nat} {L : Rows} {M : Rows} (hN : 2097152 < N) (hl : L.length ≤ 1048576) : DZ N [.rows L, .rows M] = some [.bool (eqB L M)] := by
 show FX (std (NT N) N) (xOf _) = _
 simp only [FX, std, xOf, PXb, PXc, PXn, AA]
 unfold eqB
 cases hm : (L.length : Int) == (M.length : Int) with
 | false => rfl
 | true =>
  simp only [PXb, PXc, PXn, AA]
  refine AK (A7 (len := L.length) (fun i => !(atB L i 0 == atB M i 0)) [.bool false] ?_ ?_ N (by omega)) ?_
  ·intro self
   simp only [PXb, PXc, PXn, AA, Aj]
  ·intro i self hi
   simp only [PXb, PXc, PXn, AA, AN (show i ≤ 1099511627776 by omega), Ae hi, AP hi, NG hm hi, YC]
  ·cases Ah (fun i => !(atB L i 0 == atB M i 0)) L.length 0 <;> rfl
theorem iv {N : Nat} {s0 s1 s2 s3 s4 s5 s6 s7 s8 s9 s10 s11 s12 s13 s15 s21 s22 s23 s25 s26 s27 : Int} {s18 s20 : Bool} {s14 s16 s17 s19 s24 : Rows}  : FT N [.int s0, .int s1, .int s2, .int s3, .int s4, .int s5, .int s6, .int s7, .int s8, .int s9, .int s10, .int s11, .int s12, .int s13, .rows s14, .int s15, .rows s16, .rows s17, .bool s18, .rows s19, .bool s20, .int s21, .int s22, .int s23, .rows s24, .int s25, .int s26, .int s27] = some [.int s0, .int s1, .int s2, .int s3, .int s4, .int s10, .int s11, .int s12, .int s13, .int s15, .int s21, .int s22, .int s23, .int s25, .int s26] := by
 show IW (std (Rd N) N) (xOf _) = _
 simp only [IW, std, xOf, PXb, PXc, PXn, PXm, Nat.reduceAdd, Int.reduceBEq]
theorem lf {N : Nat} {s0 s1 s2 s3 s4 s5 s6 s7 s8 s9 s10 s11 s12 s13 s15 s21 s22 s23 s25 s26 s27 : Int} {s18 s20 : Bool} {s14 s16 s17 s19 s24 : Rows} {t0 t1 t2 t3 t4 t5 t6 t7 t8 t9 t10 t11 t12 t13 t15 t21 t22 t23 t25 t26 t27 : Int} {t18 t20 : Bool} {t14 t16 t17 t19 t24 : Rows} (h : Fit s14 s16 s17 s19 s24) (hN : 2097152 < N) : K0 N [.int s0, .int s1, .int s2, .int s3, .int s4, .int s5, .int s6, .int s7, .int s8, .int s9, .int s10, .int s11, .int s12, .int s13, .rows s14, .int s15, .rows s16, .rows s17, .bool s18, .rows s19, .bool s20, .int s21, .int s22, .int s23, .rows s24, .int s25, .int s26, .int s27, .int t0, .int t1, .int t2, .int t3, .int t4, .int t5, .int t6, .int t7, .int t8, .int t9, .int t10, .int t11, .int t12, .int t13, .rows t14, .int t15, .rows t16, .rows t17, .bool t18, .rows t19, .bool t20, .int t21, .int t22, .int t23, .rows t24, .int t25, .int t26, .int t27] = some [.bool (K2 (⟨s0, s1, s2, s3, s4, s5, s6, s7, s8, s9, s10, s11, s12, s13, s14, s15, s16, s17, s18, s19, s20, s21, s22, s23, s24, s25, s26, s27⟩ : Inn) (⟨t0, t1, t2, t3, t4, t5, t6, t7, t8, t9, t10, t11, t12, t13, t14, t15, t16, t17, t18, t19, t20, t21, t22, t23, t24, t25, t26, t27⟩ : Inn))] := by
 show Ku (std (De N) N) (xOf _) = _
 generalize hres : (some [.bool (K2 (⟨s0, s1, s2, s3, s4, s5, s6, s7, s8, s9, s10, s11, s12, s13, s14, s15, s16, s17, s18, s19, s20, s21, s22, s23, s24, s25, s26, s27⟩ : Inn) (⟨t0, t1, t2, t3, t4, t5, t6, t7, t8, t9, t10, t11, t12, t13, t14, t15, t16, t17, t18, t19, t20, t21, t22, t23, t24, t25, t26, t27⟩ : Inn))] : Option (List PV)) = RR
 simp only [Ku, LN, NV, Mm, Pl, std, xOf, PXb, PXc, PXn, PXm, Nat.reduceAdd, Int.reduceBEq, Xc hN h.bt, KU hN h.bw', KU hN h.bf, KU hN h.bd, bQ hN h.sb, iv]
 subst hres; simp only [K2, eqN]
 refine congrArg (fun z => some [PV.bool z]) ?_
 simp only [Bool.and_assoc, Bool.and_comm, Bool.and_left_comm]
theorem IR (r : Rul) (side t p : Int) : (Bn r side t p).1.Fit ∧ (Bn r side t p).1.before = [] ∧ (Bn r side t p).1.bowlers = [] := by
 unfold Bn
 cases hc : Ax r == 0 with
 | false => exact ⟨⟨by show 0 ≤ 1048576; omega, by show 0 ≤ 1048576; omega, by show 0 ≤ 1048576; omega, by show 0 ≤ 1048576; omega, by show 0 ≤ 1048576; omega⟩, rfl, rfl⟩
 | true =>
  have hs := (Kr (beq_iff_eq.1 hc)).side
  have hl : ∀ x : List PV, (List.replicate r.side.toNat x).length ≤ 1048576 := fun x => by rw [List.length_replicate]; omega
  cases (!btw side 1 2 || !btw t 0 1000000 || !btw p 0 1000000) with
  | true => exact ⟨⟨by show 0 ≤ 1048576; omega, by show 0 ≤ 1048576; omega, by show 0 ≤ 1048576; omega, by show 0 ≤ 1048576; omega, by show 0 ≤ 1048576; omega⟩, rfl, rfl⟩
  | false => exact ⟨⟨hl _, by show 0 ≤ 1048576; omega, by show 0 ≤ 1048576; omega, hl _, hl _⟩, rfl, rfl⟩
theorem xZ {s : Inn} (h : s.Fit) : (Oo s).Fit := ⟨h.bt, h.bw, h.bf, h.bd, h.sb⟩
end Go.Px
end
section
namespace Go.Px
set_option maxRecDepth 100000
structure BatOk (L : Rows) (s n wk : Int) : Prop where
 le : ∀ i, i < L.length → atI L i 0 ≤ 3
 at1 : ∀ i, i < L.length → (atI L i 0 = 1 ↔ (s = (i : Int) + 1 ∨ n = (i : Int) + 1))
 here : CU L = true → s ≠ 0 ∨ n ≠ 0
 ne : s ≠ 0 → s ≠ n
 wk : wk = iX L
end Go.Px
end
section
namespace Go.Px
set_option maxRecDepth 100000
theorem xT {r : Rul} {s : Inn} (h : InnOk r s) : 2 ≤ r.side ∧ r.side ≤ 11 := (Kr h.code).side
end Go.Px
end
section
namespace Go.Px
set_option maxRecDepth 100000
structure Small (s : Inn) : Prop where
 target : s.target ≤ 999999900
 runs : s.runs ≤ 999999900
 wides : s.wides ≤ 999999900
 noballs : s.noballs ≤ 999999900
 byes : s.byes ≤ 999999900
 legbyes : s.legbyes ≤ 999999900
 pens : s.pens ≤ 999999900
 complete : s.complete ≤ 999999900
 ballage : s.ballage ≤ 999999900
 rev1 : s.rev1 ≤ 999999900
 rev2 : s.rev2 ≤ 999999900
 bowled : ∀ j, j < s.bowled.length → atI s.bowled j 0 ≤ 999999900
end Go.Px
end
section
namespace Go.Px
def AQ (xs : List Inn) : Rows := xs.map Inn.ls
def dI : Inn := ⟨0, 0, 0, 0, 0, 0, 0, 0, 0, 0, 0, 0, 0, 0, [], 0, [], [], false, [], false, 0, 0, 0, [], 0, 0, 0⟩
def inn (xs : List Inn) (i : Nat) : Inn := xs.getD i dI
structure Mat where
 rules : Rul
 stage : Int
 first : Int
 follow : Bool
 inns : List Inn
 pen1 : Int
 pen2 : Int
 win : Int
 wside : Int
 margin : Int
def Mat.ls (m : Mat) : List PV := [.str m.rules.name, .int m.rules.side, .int m.rules.innings, .int m.rules.overs, .int m.rules.balls, .int m.rules.quota, .int m.rules.wide, .int m.rules.noball, .bool m.rules.freehit, .int m.rules.newball, .int m.rules.followon, .int m.rules.reviews, .int m.rules.outside, .rows m.rules.power, .int m.stage, .int m.first, .bool m.follow, .rows (AQ m.inns), .int m.pen1, .int m.pen2, .int m.win, .int m.wside, .int m.margin]
def Em (x : Mat × Int) : List PV := [.str x.1.rules.name, .int x.1.rules.side, .int x.1.rules.innings, .int x.1.rules.overs, .int x.1.rules.balls, .int x.1.rules.quota, .int x.1.rules.wide, .int x.1.rules.noball, .bool x.1.rules.freehit, .int x.1.rules.newball, .int x.1.rules.followon, .int x.1.rules.reviews, .int x.1.rules.outside, .rows x.1.rules.power, .int x.1.stage, .int x.1.first, .bool x.1.follow, .rows (AQ x.1.inns), .int x.1.pen1, .int x.1.pen2, .int x.1.win, .int x.1.wside, .int x.1.margin, .int x.2]
theorem lN (xs : List Inn) (i : Nat) : A1 (AQ xs) i = (match xs[i]? with | some s => s.ls | none => []) := by
 unfold A1 AQ
 rw [List.getD_eq_getElem?_getD, List.getElem?_map]
 cases xs[i]? <;> rfl
theorem Ui (xs : List Inn) (i : Nat) : inn xs i = (match xs[i]? with | some s => s | none => dI) := by
 unfold inn
 rw [List.getD_eq_getElem?_getD]
 cases xs[i]? <;> rfl
theorem hP (xs : List Inn) : (AQ xs).length = xs.length := List.length_map _
theorem PXi : (∀ xs : List Inn, (AQ xs).length = xs.length) ∧ (∀ (xs : List Inn) (i : Nat), pvI (AG (AQ xs) i 0) = (inn xs i).side) ∧ (∀ (xs : List Inn) (i : Nat), pvI (AG (AQ xs) i 1) = (inn xs i).target) ∧ (∀ (xs : List Inn) (i : Nat), pvI (AG (AQ xs) i 2) = (inn xs i).overs) ∧ (∀ (xs : List Inn) (i : Nat), pvI (AG (AQ xs) i 3) = (inn xs i).runs) ∧
    (∀ (xs : List Inn) (i : Nat), pvI (AG (AQ xs) i 4) = (inn xs i).wickets) ∧ (∀ (xs : List Inn) (i : Nat), pvI (AG (AQ xs) i 5) = (inn xs i).wides) ∧ (∀ (xs : List Inn) (i : Nat), pvI (AG (AQ xs) i 6) = (inn xs i).noballs) ∧ (∀ (xs : List Inn) (i : Nat), pvI (AG (AQ xs) i 7) = (inn xs i).byes) ∧ (∀ (xs : List Inn) (i : Nat), pvI (AG (AQ xs) i 8) = (inn xs i).legbyes) ∧
    (∀ (xs : List Inn) (i : Nat), pvI (AG (AQ xs) i 9) = (inn xs i).pens) ∧ (∀ (xs : List Inn) (i : Nat), pvI (AG (AQ xs) i 10) = (inn xs i).complete) ∧ (∀ (xs : List Inn) (i : Nat), pvI (AG (AQ xs) i 11) = (inn xs i).inover) ∧ (∀ (xs : List Inn) (i : Nat), pvI (AG (AQ xs) i 12) = (inn xs i).striker) ∧ (∀ (xs : List Inn) (i : Nat), pvI (AG (AQ xs) i 13) = (inn xs i).other) ∧
    (∀ (xs : List Inn) (i : Nat), pvL (AG (AQ xs) i 14) = (inn xs i).batters) ∧ (∀ (xs : List Inn) (i : Nat), pvI (AG (AQ xs) i 15) = (inn xs i).bowler) ∧ (∀ (xs : List Inn) (i : Nat), pvL (AG (AQ xs) i 16) = (inn xs i).bowlers) ∧ (∀ (xs : List Inn) (i : Nat), pvL (AG (AQ xs) i 17) = (inn xs i).before) ∧ (∀ (xs : List Inn) (i : Nat), pvB (AG (AQ xs) i 18) = (inn xs i).fresh) ∧
    (∀ (xs : List Inn) (i : Nat), pvL (AG (AQ xs) i 19) = (inn xs i).bowled) ∧ (∀ (xs : List Inn) (i : Nat), pvB (AG (AQ xs) i 20) = (inn xs i).freehit) ∧ (∀ (xs : List Inn) (i : Nat), pvI (AG (AQ xs) i 21) = (inn xs i).ballage) ∧ (∀ (xs : List Inn) (i : Nat), pvI (AG (AQ xs) i 22) = (inn xs i).keeper) ∧ (∀ (xs : List Inn) (i : Nat), pvI (AG (AQ xs) i 23) = (inn xs i).outside) ∧
    (∀ (xs : List Inn) (i : Nat), pvL (AG (AQ xs) i 24) = (inn xs i).subs) ∧ (∀ (xs : List Inn) (i : Nat), pvI (AG (AQ xs) i 25) = (inn xs i).rev1) ∧ (∀ (xs : List Inn) (i : Nat), pvI (AG (AQ xs) i 26) = (inn xs i).rev2) ∧ (∀ (xs : List Inn) (i : Nat), pvI (AG (AQ xs) i 27) = (inn xs i).ending) := by
  refine ⟨hP, ?_, ?_, ?_, ?_, ?_, ?_, ?_, ?_, ?_, ?_, ?_, ?_, ?_, ?_, ?_, ?_, ?_, ?_, ?_, ?_, ?_, ?_, ?_, ?_, ?_, ?_, ?_, ?_⟩
  all_goals (intro xs i; rw [Ui]; unfold AG; rw [lN]; cases xs[i]? <;> rfl)
theorem Mat.eta (m : Mat) : Mat.mk m.rules m.stage m.first m.follow m.inns m.pen1 m.pen2 m.win m.wside m.margin = m := rfl
theorem PXk : (∀ m : Mat, m.ls = [.str m.rules.name, .int m.rules.side, .int m.rules.innings, .int m.rules.overs, .int m.rules.balls, .int m.rules.quota, .int m.rules.wide, .int m.rules.noball, .bool m.rules.freehit, .int m.rules.newball, .int m.rules.followon, .int m.rules.reviews, .int m.rules.outside, .rows m.rules.power, .int m.stage, .int m.first, .bool m.follow, .rows (AQ m.inns), .int m.pen1, .int m.pen2, .int m.win, .int m.wside, .int m.margin]) ∧
    (∀ x : Mat × Int, Em x = [.str x.1.rules.name, .int x.1.rules.side, .int x.1.rules.innings, .int x.1.rules.overs, .int x.1.rules.balls, .int x.1.rules.quota, .int x.1.rules.wide, .int x.1.rules.noball, .bool x.1.rules.freehit, .int x.1.rules.newball, .int x.1.rules.followon, .int x.1.rules.reviews, .int x.1.rules.outside, .rows x.1.rules.power, .int x.1.stage, .int x.1.first, .bool x.1.follow, .rows (AQ x.1.inns), .int x.1.pen1, .int x.1.pen2, .int x.1.win, .int x.1.wside, .int x.1.margin, .int x.2]) ∧
    (∀ m : Mat, Mat.mk m.rules m.stage m.first m.follow m.inns m.pen1 m.pen2 m.win m.wside m.margin = m) := ⟨fun _ => rfl, fun _ => rfl, fun _ => rfl⟩
theorem sO : ∀ (ps r pre : List PV), r.length = ps.length → Br (pre ++ r) pre.length ps = pre ++ ps
 | [], r, pre, h => by
  have : r = [] := List.eq_nil_of_length_eq_zero h
  subst this
  rfl
 | p :: ps, [], pre, h => by cases h
 | p :: ps, a :: r, pre, h => by
  have ih := sO ps r (pre ++ [p]) (by simpa using h)
  simp only [List.length_append, List.length_cons, List.length_nil, List.append_assoc, List.cons_append, List.nil_append] at ih
  unfold Br
  rw [List.set_append_right _ _ (Nat.le_refl _), Nat.sub_self]
  exact ih
theorem yU (a s : Inn) : Br a.ls 0 s.ls = s.ls := sO s.ls a.ls [] rfl
theorem xw (a : Inn) (e : Int) : Br a.ls 27 [.int e] = Inn.ls { a with ending := e } := by
 show a.ls.set 27 (.int e) = _
 rfl
theorem xf {xs : List Inn} {i : Nat} (h : i < xs.length) (s : Inn) : (AQ xs).set i (Br (A1 (AQ xs) i) 0 s.ls) = AQ (xs.set i s) := by
 have e : A1 (AQ xs) i = (xs[i]).ls := by rw [lN, List.getElem?_eq_getElem h]
 rw [e, yU]
 exact List.map_set.symm
theorem xn {xs : List Inn} {i : Nat} (h : i < xs.length) (e : Int) : (AQ xs).set i (Br (A1 (AQ xs) i) 27 [.int e]) = AQ (xs.set i { inn xs i with ending := e }) := by
 have e1 : A1 (AQ xs) i = (inn xs i).ls := by rw [lN, Ui, List.getElem?_eq_getElem h]
 rw [e1, xw]
 exact List.map_set.symm
theorem xq (xs : List Inn) (s : Inn) : AQ xs ++ [s.ls] = AQ (xs ++ [s]) := by
 show List.map Inn.ls xs ++ List.map Inn.ls [s] = List.map Inn.ls (xs ++ [s])
 exact List.map_append.symm
theorem xc (xs : List Inn) (i : Nat) (s : Inn) : (AQ xs).set i (Br (A1 (AQ xs) i) 0 s.ls) = AQ (xs.set i s) := by
 by_cases h : i < xs.length
 ·exact xf h s
 ·rw [List.set_eq_of_length_le (by rw [hP]; omega), List.set_eq_of_length_le (by omega)]
theorem rh (xs : List Inn) (i : Nat) (e : Int) : (AQ xs).set i (Br (A1 (AQ xs) i) 27 [.int e]) = AQ (xs.set i { inn xs i with ending := e }) := by
 by_cases h : i < xs.length
 ·exact xn h e
 ·rw [List.set_eq_of_length_le (by rw [hP]; omega), List.set_eq_of_length_le (by omega)]
theorem PXr : (∀ (xs : List Inn) (x0 x1 x2 x3 x4 x5 x6 x7 x8 x9 x10 x11 x12 x13 x15 x21 x22 x23 x25 x26 x27 : Int) (x18 x20 : Bool) (x14 x16 x17 x19 x24 : Rows), AQ xs ++ [([.int x0, .int x1, .int x2, .int x3, .int x4, .int x5, .int x6, .int x7, .int x8, .int x9, .int x10, .int x11, .int x12, .int x13, .rows x14, .int x15, .rows x16, .rows x17, .bool x18, .rows x19, .bool x20, .int x21, .int x22, .int x23, .rows x24, .int x25, .int x26, .int x27] : List PV)] = AQ (xs ++ [⟨x0, x1, x2, x3, x4, x5, x6, x7, x8, x9, x10, x11, x12, x13, x14, x15, x16, x17, x18, x19, x20, x21, x22, x23, x24, x25, x26, x27⟩])) ∧ (∀ (xs : List Inn) (i : Nat) (x0 x1 x2 x3 x4 x5 x6 x7 x8 x9 x10 x11 x12 x13 x15 x21 x22 x23 x25 x26 x27 : Int) (x18 x20 : Bool) (x14 x16 x17 x19 x24 : Rows), (AQ xs).set i (Br (A1 (AQ xs) i) 0 [.int x0, .int x1, .int x2, .int x3, .int x4, .int x5, .int x6, .int x7, .int x8, .int x9, .int x10, .int x11, .int x12, .int x13, .rows x14, .int x15, .rows x16, .rows x17, .bool x18, .rows x19, .bool x20, .int x21, .int x22, .int x23, .rows x24, .int x25, .int x26, .int x27]) = AQ (xs.set i ⟨x0, x1, x2, x3, x4, x5, x6, x7, x8, x9, x10, x11, x12, x13, x14, x15, x16, x17, x18, x19, x20, x21, x22, x23, x24, x25, x26, x27⟩)) ∧
    (∀ (xs : List Inn) (i : Nat) (e : Int), (AQ xs).set i (Br (A1 (AQ xs) i) 27 [.int e]) = AQ (xs.set i { inn xs i with ending := e })) :=
  ⟨fun xs x0 x1 x2 x3 x4 x5 x6 x7 x8 x9 x10 x11 x12 x13 x15 x21 x22 x23 x25 x26 x27 x18 x20 x14 x16 x17 x19 x24 => xq xs ⟨x0, x1, x2, x3, x4, x5, x6, x7, x8, x9, x10, x11, x12, x13, x14, x15, x16, x17, x18, x19, x20, x21, x22, x23, x24, x25, x26, x27⟩, fun xs i x0 x1 x2 x3 x4 x5 x6 x7 x8 x9 x10 x11 x12 x13 x15 x21 x22 x23 x25 x26 x27 x18 x20 x14 x16 x17 x19 x24 => xc xs i ⟨x0, x1, x2, x3, x4, x5, x6, x7, x8, x9, x10, x11, x12, x13, x14, x15, x16, x17, x18, x19, x20, x21, x22, x23, x24, x25, x26, x27⟩, rh⟩
end Go.Px
end
section
namespace Go.Px
set_option maxRecDepth 100000
def Bi (n : Int) : Int := IntKind.i64.wrap (3 - n)
theorem Ia {N : Nat} {n : Int}  : BG N [.int n] = some [.int (Bi n)] := by
 show MO (std (Vs N) N) (xOf _) = _
 simp only [MO, std, xOf, PXb, PXc, PXn, PXm, Nat.reduceAdd, Int.reduceBEq, Bi]
theorem Gd {N : Nat} {n : Int}  : B2 N [.int n] = some [.int (Bi n)] := by
 show Q3 (std (aW N) N) (xOf _) = _
 simp only [Q3, std, xOf, PXb, PXc, PXn, PXm, Nat.reduceAdd, Int.reduceBEq, Bi]
def Dq (m : Mat) (i : Int) : Int := cond (cond (m.follow && iLe 2 i) (i == 2) (i.tmod 2 == 1)) (Bi m.first) m.first
theorem R4 {N : Nat} {m1 m2 m3 m4 m5 m6 m7 m9 m10 m11 m12 m14 m15 m18 m19 m20 m21 m22 : Int} {m8 m16 : Bool} {m0 : ByteArray} {m13 : Rows} {m17 : List Inn} {i : Int}  : DJ N [.str m0, .int m1, .int m2, .int m3, .int m4, .int m5, .int m6, .int m7, .bool m8, .int m9, .int m10, .int m11, .int m12, .rows m13, .int m14, .int m15, .bool m16, .rows (AQ m17), .int m18, .int m19, .int m20, .int m21, .int m22, .int i] = some [.int (Dq (⟨⟨m0, m1, m2, m3, m4, m5, m6, m7, m8, m9, m10, m11, m12, m13⟩, m14, m15, m16, m17, m18, m19, m20, m21, m22⟩ : Mat) i)] := by
 show MR (std (Nx N) N) (xOf _) = _
 generalize hres : (some [.int (Dq (⟨⟨m0, m1, m2, m3, m4, m5, m6, m7, m8, m9, m10, m11, m12, m13⟩, m14, m15, m16, m17, m18, m19, m20, m21, m22⟩ : Mat) i)] : Option (List PV)) = RR
 simp only [MR, TF, std, xOf, PXb, PXc, PXn, PXm, Nat.reduceAdd, Int.reduceBEq, Ia]
 subst hres; simp only [Dq]
theorem eD {N : Nat} {m1 m2 m3 m4 m5 m6 m7 m9 m10 m11 m12 m14 m15 m18 m19 m20 m21 m22 : Int} {m8 m16 : Bool} {m0 : ByteArray} {m13 : Rows} {m17 : List Inn} {i : Int} (hi : 0 ≤ i ∧ i ≤ 3) : FF N [.str m0, .int m1, .int m2, .int m3, .int m4, .int m5, .int m6, .int m7, .bool m8, .int m9, .int m10, .int m11, .int m12, .rows m13, .int m14, .int m15, .bool m16, .rows (AQ m17), .int m18, .int m19, .int m20, .int m21, .int m22, .int i] = some [.int (Dq (⟨⟨m0, m1, m2, m3, m4, m5, m6, m7, m8, m9, m10, m11, m12, m13⟩, m14, m15, m16, m17, m18, m19, m20, m21, m22⟩ : Mat) i)] := by
 show Nm (std (QF N) N) (xOf _) = _
 generalize hres : (some [.int (Dq (⟨⟨m0, m1, m2, m3, m4, m5, m6, m7, m8, m9, m10, m11, m12, m13⟩, m14, m15, m16, m17, m18, m19, m20, m21, m22⟩ : Mat) i)] : Option (List PV)) = RR
 simp only [Nm, XD, std, xOf, PXb, PXc, PXn, PXm, Nat.reduceAdd, Int.reduceBEq, Gd]
 subst hres; simp only [Dq]
 have : i = 0 ∨ i = 1 ∨ i = 2 ∨ i = 3 := by omega
 rcases this with h | h | h | h <;> subst h <;> cases m16 <;> rfl
def Gc (xs : List Inn) (side : Int) : Nat → Int
 | 0 => 0
 | i + 1 => cond ((inn xs i).side == side) (IntKind.i64.wrap (Gc xs side i + (inn xs i).runs)) (Gc xs side i)
def A9 (m : Mat) (side : Int) : Int := Gc m.inns side m.inns.length
theorem SH {N : Nat} {m1 m2 m3 m4 m5 m6 m7 m9 m10 m11 m12 m14 m15 m18 m19 m20 m21 m22 : Int} {m8 m16 : Bool} {m0 : ByteArray} {m13 : Rows} {m17 : List Inn} {n : Int} (hN : 2097152 < N) (hl : m17.length ≤ 1048576) : Bq N [.str m0, .int m1, .int m2, .int m3, .int m4, .int m5, .int m6, .int m7, .bool m8, .int m9, .int m10, .int m11, .int m12, .rows m13, .int m14, .int m15, .bool m16, .rows (AQ m17), .int m18, .int m19, .int m20, .int m21, .int m22, .int n] = some [.int (A9 (⟨⟨m0, m1, m2, m3, m4, m5, m6, m7, m8, m9, m10, m11, m12, m13⟩, m14, m15, m16, m17, m18, m19, m20, m21, m22⟩ : Mat) n)] := by
 show Md (std (Wd N) N) (xOf _) = _
 generalize hres : (some [.int (A9 (⟨⟨m0, m1, m2, m3, m4, m5, m6, m7, m8, m9, m10, m11, m12, m13⟩, m14, m15, m16, m17, m18, m19, m20, m21, m22⟩ : Mat) n)] : Option (List PV)) = RR
 simp only [Md, std, xOf, PXb, PXi]
 subst hres; simp only [A9]
 refine AK (Dg (len := m17.length) (fun i => [.int (Gc m17 n i), .int (i : Int)]) [.int (Gc m17 n m17.length)] ?_ ?_ N (by omega)) rfl
 ·intro self
  simp only [PXb, PXc, PXn, AA, Aj]
 ·intro i self hi
  simp only [PXb, PXc, AA, AN (show i ≤ 1099511627776 by omega), Ae hi, AP hi, PXi, Gc]
  cases (inn m17 i).side == n <;> rfl
theorem Lc {N : Nat} {m1 m2 m3 m4 m5 m6 m7 m9 m10 m11 m12 m14 m15 m18 m19 m20 m21 m22 : Int} {m8 m16 : Bool} {m0 : ByteArray} {m13 : Rows} {m17 : List Inn} {n : Int} (hN : 2097152 < N) (hl : m17.length ≤ 1048576) : Es N [.str m0, .int m1, .int m2, .int m3, .int m4, .int m5, .int m6, .int m7, .bool m8, .int m9, .int m10, .int m11, .int m12, .rows m13, .int m14, .int m15, .bool m16, .rows (AQ m17), .int m18, .int m19, .int m20, .int m21, .int m22, .int n] = some [.int (A9 (⟨⟨m0, m1, m2, m3, m4, m5, m6, m7, m8, m9, m10, m11, m12, m13⟩, m14, m15, m16, m17, m18, m19, m20, m21, m22⟩ : Mat) n)] := by
 show Qx (std (aq N) N) (xOf _) = _
 generalize hres : (some [.int (A9 (⟨⟨m0, m1, m2, m3, m4, m5, m6, m7, m8, m9, m10, m11, m12, m13⟩, m14, m15, m16, m17, m18, m19, m20, m21, m22⟩ : Mat) n)] : Option (List PV)) = RR
 simp only [Qx, std, xOf, PXb, PXi]
 subst hres; simp only [A9]
 refine AK (Dg (len := m17.length) (fun i => [.int (Gc m17 n i), .int (i : Int)]) [.int (Gc m17 n m17.length)] ?_ ?_ N (by omega)) rfl
 ·intro self
  simp only [PXb, PXc, PXn, AA, Aj]
 ·intro i self hi
  simp only [PXb, PXc, AA, AN (show i ≤ 1099511627776 by omega), Ae hi, AP hi, PXi, Gc]
  cases (inn m17 i).side == n <;> rfl
def HJ (m : Mat) (side : Int) : Int :=
 cond (iLt (IntKind.i64.wrap ((m.inns.length : Int) + 1)) (IntKind.i64.wrap (2 * m.rules.innings))) 0 (IntKind.i64.wrap (IntKind.i64.wrap (A9 m (Bi side) - A9 m side) + 1))
theorem Yg {N : Nat} {m1 m2 m3 m4 m5 m6 m7 m9 m10 m11 m12 m14 m15 m18 m19 m20 m21 m22 : Int} {m8 m16 : Bool} {m0 : ByteArray} {m13 : Rows} {m17 : List Inn} {n : Int} (hN : 2097152 < N) (hl : m17.length ≤ 1048576) : HG N [.str m0, .int m1, .int m2, .int m3, .int m4, .int m5, .int m6, .int m7, .bool m8, .int m9, .int m10, .int m11, .int m12, .rows m13, .int m14, .int m15, .bool m16, .rows (AQ m17), .int m18, .int m19, .int m20, .int m21, .int m22, .int n] = some [.int (HJ (⟨⟨m0, m1, m2, m3, m4, m5, m6, m7, m8, m9, m10, m11, m12, m13⟩, m14, m15, m16, m17, m18, m19, m20, m21, m22⟩ : Mat) n)] := by
 show Kl (std (IX N) N) (xOf _) = _
 generalize hres : (some [.int (HJ (⟨⟨m0, m1, m2, m3, m4, m5, m6, m7, m8, m9, m10, m11, m12, m13⟩, m14, m15, m16, m17, m18, m19, m20, m21, m22⟩ : Mat) n)] : Option (List PV)) = RR
 simp only [Kl, SF, R5, std, xOf, PXb, PXc, PXn, PXm, Nat.reduceAdd, Int.reduceBEq, PXi, Ia, SH hN hl]
 subst hres; simp only [HJ]
def Lg (stage : Int) (xs : List Inn) (i : Nat) : Bool := !(((inn xs i).ending == 0) == (stage == 3 && ((i : Int) == IntKind.i64.wrap ((xs.length : Int) - 1))))
def Ya (m : Mat) : Bool := !Ah (Lg m.stage m.inns) m.inns.length 0 && (!(m.stage == 3) || iLt 0 (m.inns.length : Int))
theorem nO {N : Nat} {m1 m2 m3 m4 m5 m6 m7 m9 m10 m11 m12 m14 m15 m18 m19 m20 m21 m22 : Int} {m8 m16 : Bool} {m0 : ByteArray} {m13 : Rows} {m17 : List Inn} (hN : 2097152 < N) (hl : m17.length ≤ 1048576) : Iw N [.str m0, .int m1, .int m2, .int m3, .int m4, .int m5, .int m6, .int m7, .bool m8, .int m9, .int m10, .int m11, .int m12, .rows m13, .int m14, .int m15, .bool m16, .rows (AQ m17), .int m18, .int m19, .int m20, .int m21, .int m22] = some [.bool (Ya (⟨⟨m0, m1, m2, m3, m4, m5, m6, m7, m8, m9, m10, m11, m12, m13⟩, m14, m15, m16, m17, m18, m19, m20, m21, m22⟩ : Mat))] := by
 show MW (std (V5 N) N) (xOf _) = _
 generalize hres : (some [.bool (Ya (⟨⟨m0, m1, m2, m3, m4, m5, m6, m7, m8, m9, m10, m11, m12, m13⟩, m14, m15, m16, m17, m18, m19, m20, m21, m22⟩ : Mat))] : Option (List PV)) = RR
 simp only [MW, std, xOf, PXb, PXi]
 subst hres; simp only [Ya]
 refine AK (A7 (len := m17.length) (Lg m14 m17) [.bool false] ?_ ?_ N (by omega)) ?_
 ·intro self
  simp only [PXb, PXc, PXn, AA, Aj]
 ·intro i self hi
  simp only [PXb, PXc, AA, AN (show i ≤ 1099511627776 by omega), Ae hi, AP hi, PXi, Lg]
 ·cases Ah (Lg m14 m17) m17.length 0 with
  | true => rfl
  | false => simp only [PXb, PXc, PXn, PXm, Nat.reduceAdd, Int.reduceBEq]
end Go.Px
end
