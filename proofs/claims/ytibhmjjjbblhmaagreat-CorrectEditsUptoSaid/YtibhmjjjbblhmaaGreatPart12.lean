/- Part 12. -/
import Derived.Test.YtibhmjjjbblhmaaGreatPart11
import Derived.Test.YtibhmjjjbblhmaaGreatPart07
set_option linter.unusedVariables false
set_option linter.unusedSimpArgs false
section
namespace Go.Px
set_option maxRecDepth 100000
set_option maxHeartbeats 4000000 in
theorem Z5 {N : Nat} {r1 r2 r3 r4 r5 r6 r7 r9 r10 r11 r12 : Int} {r8 : Bool} {r0 : ByteArray} {r13 : Rows} {s0 s1 s2 s3 s4 s5 s6 s7 s8 s9 s10 s11 s12 s13 s15 s21 s22 s23 s25 s26 s27 : Int} {s18 s20 : Bool} {s14 s16 s17 s19 s24 : Rows} {e0 e1 e2 e3 e5 e6 e7 e8 e9 e10 e11 e13 e14 e15 e16 e18 : Int} {e4 e12 e17 : Bool} (h : Fit s14 s16 s17 s19 s24) (hw : s17.length + s16.length ≤ 1000000) (hN : 2097152 < N) (hs : r0.size ≤ 1048576) (h13 : r13.length ≤ 1048576) : Ia N [.str r0, .int r1, .int r2, .int r3, .int r4, .int r5, .int r6, .int r7, .bool r8, .int r9, .int r10, .int r11, .int r12, .rows r13, .int s0, .int s1, .int s2, .int s3, .int s4, .int s5, .int s6, .int s7, .int s8, .int s9, .int s10, .int s11, .int s12, .int s13, .rows s14, .int s15, .rows s16, .rows s17, .bool s18, .rows s19, .bool s20, .int s21, .int s22, .int s23, .rows s24, .int s25, .int s26, .int s27, .int e0, .int e1, .int e2, .int e3, .bool e4, .int e5, .int e6, .int e7, .int e8, .int e9, .int e10, .int e11, .bool e12, .int e13, .int e14, .int e15, .int e16, .bool e17, .int e18] = some (AZ (C2 (⟨r0, r1, r2, r3, r4, r5, r6, r7, r8, r9, r10, r11, r12, r13⟩ : Rul) (⟨s0, s1, s2, s3, s4, s5, s6, s7, s8, s9, s10, s11, s12, s13, s14, s15, s16, s17, s18, s19, s20, s21, s22, s23, s24, s25, s26, s27⟩ : Inn) (⟨e0, e1, e2, e3, e4, e5, e6, ⟨e7, e8, e9, e10, e11, e12, e13, e14, e15, e16, e17, e18⟩⟩ : Ev))) := by
 show Pn (std (CR N) N) (xOf _) = _
 generalize hres : (some (AZ (C2 (⟨r0, r1, r2, r3, r4, r5, r6, r7, r8, r9, r10, r11, r12, r13⟩ : Rul) (⟨s0, s1, s2, s3, s4, s5, s6, s7, s8, s9, s10, s11, s12, s13, s14, s15, s16, s17, s18, s19, s20, s21, s22, s23, s24, s25, s26, s27⟩ : Inn) (⟨e0, e1, e2, e3, e4, e5, e6, ⟨e7, e8, e9, e10, e11, e12, e13, e14, e15, e16, e17, e18⟩⟩ : Ev))) : Option (List PV)) = RR
 have l1 := VZ (⟨r0, r1, r2, r3, r4, r5, r6, r7, r8, r9, r10, r11, r12, r13⟩ : Rul) (⟨s0, s1, s2, s3, s4, s5, s6, s7, s8, s9, s10, s11, s12, s13, s14, s15, s16, s17, s18, s19, s20, s21, s22, s23, s24, s25, s26, s27⟩ : Inn) (⟨e0, e1, e2, e3, e4, e5, e6, ⟨e7, e8, e9, e10, e11, e12, e13, e14, e15, e16, e17, e18⟩⟩ : Ev)
 have f1 := L6 l1 h (by simp only; omega)
 simp only [Pn, Z0, Ze, aR, Zg, KX, Np, std, xOf, PXb, Xg h, gz h hN hs, gX, YD h.bt hN]
 subst hres; simp only [C2, un]
 cases H3 (⟨r0, r1, r2, r3, r4, r5, r6, r7, r8, r9, r10, r11, r12, r13⟩ : Rul) (⟨s0, s1, s2, s3, s4, s5, s6, s7, s8, s9, s10, s11, s12, s13, s14, s15, s16, s17, s18, s19, s20, s21, s22, s23, s24, s25, s26, s27⟩ : Inn)
 ·rfl
 cases he : evS (⟨e0, e1, e2, e3, e4, e5, e6, ⟨e7, e8, e9, e10, e11, e12, e13, e14, e15, e16, e17, e18⟩⟩ : Ev) == 0
 ·simp only [PXb, PXc, PXn, PXm, Nat.reduceAdd, Int.reduceBEq, he]
 simp only [PXb, PXc, PXn, PXm, Nat.reduceAdd, Int.reduceBEq, he]
 cases s27 == 0 <;> try rfl
 cases h2 : e0 == 2 <;> cases h1 : e0 == 1 <;> cases hc : e0 == 12 <;> cases hd : e0 == 16 <;> cases Cd s14 <;> try rfl
 all_goals first
  | (rw [Qu h2 (c := 1) rfl] at h1; exact absurd h1 (by decide))
  | (rw [Qu h2 (c := 12) rfl] at hc; exact absurd hc (by decide))
  | (rw [Qu h2 (c := 16) rfl] at hd; exact absurd hd (by decide))
  | (simp only [PXb, PXc, PXn, PXm, Nat.reduceAdd, Int.reduceBEq, KX, oQ h hw hN hs h13 he, mV, h1, hc, hd]; done)
  | skip
 all_goals (simp only [PXb, PXc, PXn, PXm, Nat.reduceAdd, Int.reduceBEq, KX, Np, oQ h hw hN hs h13 he, mV, h1, hc, hd, rG f1 hN hs])
 all_goals (unfold fO kP; cases (DI (⟨r0, r1, r2, r3, r4, r5, r6, r7, r8, r9, r10, r11, r12, r13⟩ : Rul) (⟨s0, s1, s2, s3, s4, s5, s6, s7, s8, s9, s10, s11, s12, s13, s14, s15, s16, s17, s18, s19, s20, s21, s22, s23, s24, s25, s26, s27⟩ : Inn) (⟨e0, e1, e2, e3, e4, e5, e6, ⟨e7, e8, e9, e10, e11, e12, e13, e14, e15, e16, e17, e18⟩⟩ : Ev)).2 == 0 <;> cases (DI (⟨r0, r1, r2, r3, r4, r5, r6, r7, r8, r9, r10, r11, r12, r13⟩ : Rul) (⟨s0, s1, s2, s3, s4, s5, s6, s7, s8, s9, s10, s11, s12, s13, s14, s15, s16, s17, s18, s19, s20, s21, s22, s23, s24, s25, s26, s27⟩ : Inn) (⟨e0, e1, e2, e3, e4, e5, e6, ⟨e7, e8, e9, e10, e11, e12, e13, e14, e15, e16, e17, e18⟩⟩ : Ev)).1.ending == 0 <;> rfl)
def eqL (L M : Rows) : Bool := ((L.length : Int) == (M.length : Int)) && !Am (fun i => !(atI L i 0 == atI M i 0)) L.length 0
def eqB (L M : Rows) : Bool := ((L.length : Int) == (M.length : Int)) && !Am (fun i => !(atB L i 0 == atB M i 0)) L.length 0
def eqN (s t : Inn) : Bool := s.side == t.side && s.target == t.target && s.overs == t.overs && s.runs == t.runs && s.wickets == t.wickets && (s.wides == t.wides && (s.noballs == t.noballs && (s.byes == t.byes && (s.legbyes == t.legbyes && s.pens == t.pens)))) && s.complete == t.complete && s.inover == t.inover && s.striker == t.striker && s.other == t.other && s.bowler == t.bowler && s.fresh == t.fresh && s.freehit == t.freehit && s.ballage == t.ballage && s.keeper == t.keeper && s.outside == t.outside && s.rev1 == t.rev1 && s.rev2 == t.rev2 && s.ending == t.ending
def fR (s t : Inn) : Bool := eqL s.batters t.batters && (eqB s.subs t.subs && (eqL s.bowlers t.bowlers && (eqL s.before t.before && (eqL s.bowled t.bowled && eqN s t))))
theorem fe {i len : Nat} {m : Nat} (h : ((len : Int) == (m : Int)) = true) (hi : i < len) : iIn (i : Int) (m : Int) = true := by
 have := beq_iff_eq.1 h
 exact AO (by omega)
theorem zD (L : Rows) (c : Nat) : (cut L c).length ≤ c := by
 unfold cut
 rw [List.length_drop, List.length_take]
 cases h : iLt (c : Int) (L.length : Int) with
 | true => simp only [cond_true]; omega
 | false => simp only [iLt, decide_eq_false_iff_not] at h; simp only [cond_false]; omega
theorem sK {s t : Inn} (r : Rul) (b : Bool) (h : Lens s t) : Lens s (fO r t b) := ⟨h.bt, h.bd, h.sb, h.bw, h.bf⟩
theorem WU (r : Rul) (s : Inn) (e : Ev) : Lens s (C2 r s e).1 := by
 unfold C2
 exact L_c _ _ _ (Lens.refl s) (L_c _ _ _ (Lens.refl s) (L_c _ _ _ (Lens.refl s) (L_c _ _ _ (Lens.refl s) (sK r _ (VZ r s e)))))
end Go.Px
end
section
namespace Go.Px
set_option maxRecDepth 100000
theorem fP {x a b : Int} : btw x a b = true ↔ a ≤ x ∧ x ≤ b := by simp [btw, iLe]
structure RulOk (r : Rul) : Prop where
 side : 2 ≤ r.side ∧ r.side ≤ 11
 innings : 1 ≤ r.innings ∧ r.innings ≤ 2
 overs : 0 ≤ r.overs ∧ r.overs ≤ 90
 balls : 4 ≤ r.balls ∧ r.balls ≤ 8
 quota : 0 ≤ r.quota ∧ r.quota ≤ 90
 wide : 1 ≤ r.wide ∧ r.wide ≤ 5
 noball : 1 ≤ r.noball ∧ r.noball ≤ 5
 newball : 0 ≤ r.newball ∧ r.newball ≤ 200
 followon : 0 ≤ r.followon ∧ r.followon ≤ 1000
 reviews : 0 ≤ r.reviews ∧ r.reviews ≤ 9
 outside : 0 ≤ r.outside ∧ r.outside ≤ 11
theorem LV {r : Rul} (h : A4 r = 0) : RulOk r := by
 unfold A4 D7 at h
 cases hn : MZ r.name with
 | false => rw [hn] at h; cases h
 | true =>
  cases hr : G0 r.side r.innings r.overs r.balls r.quota r.wide r.noball r.newball r.followon r.reviews r.outside with
  | false => rw [hn, hr] at h; cases h
  | true =>
   unfold G0 at hr
   simp only [Bool.and_eq_true, fP] at hr
   obtain ⟨⟨⟨⟨⟨⟨⟨⟨⟨⟨h1, h2⟩, h3⟩, h4⟩, h5⟩, h6⟩, h7⟩, h8⟩, h9⟩, h10⟩, h11⟩ := hr
   exact ⟨h1, h2, h3, h4, h5, h6, h7, h8, h9, h10, h11⟩
def Cj (x : Int) : Prop := 0 ≤ x ∧ x ≤ 1000000000
structure InnOk (r : Rul) (s : Inn) : Prop where
 code : A4 r = 0
 side : 1 ≤ s.side ∧ s.side ≤ 2
 lb : (s.batters.length : Int) = r.side
 ld : (s.bowled.length : Int) = r.side
 lz : (s.subs.length : Int) = r.side
 ending : s.ending ≤ 5
 st : 0 ≤ s.striker ∧ s.striker ≤ r.side
 ot : 0 ≤ s.other ∧ s.other ≤ r.side
 bat : Wk s.batters s.striker s.other s.wickets = true
 bow : 0 ≤ s.bowler ∧ s.bowler ≤ r.side
 kee : 0 ≤ s.keeper ∧ s.keeper ≤ r.side
 dw : GH s.bowlers r.side = true
 df : GH s.before r.side = true
 ov : Nx r.overs s.overs = true
 io : 0 ≤ s.inover ∧ s.inover ≤ r.balls - 1
 target : Cj s.target
 runs : Cj s.runs
 wides : Cj s.wides
 noballs : Cj s.noballs
 byes : Cj s.byes
 legbyes : Cj s.legbyes
 pens : Cj s.pens
 complete : Cj s.complete
 ballage : Cj s.ballage
 outside : Cj s.outside
 rev1 : Cj s.rev1
 rev2 : Cj s.rev2
 bowled : Lj DM s.bowled = false
theorem ya {x : Int} : DM x = false ↔ Cj x := by
 unfold DM Cj
 rw [Bool.not_eq_false', fP]
theorem xe (a b c d e f g h i j k l : Int) : Lj DM (Z7 a b c d e f g h i j k l) = false ↔ Cj a ∧ Cj b ∧ Cj c ∧ Cj d ∧ Cj e ∧ Cj f ∧ Cj g ∧ Cj h ∧ Cj i ∧ Cj j ∧ Cj k ∧ Cj l := by
 rw [QX]
 simp only [Z7, List.any_cons, List.any_nil, Bool.or_false, nc, yi, Bool.or_eq_false_iff, ya]
theorem lR {r : Rul} (h : RulOk r) : IntKind.i64.wrap (r.balls - 1) = r.balls - 1 := by
 have := h.balls
 exact DG (by omega) (by omega)
theorem tg {x : Int} : (!iLt 5 x) = true ↔ x ≤ 5 := by
 rw [Bool.not_eq_true']
 simp only [iLt, decide_eq_false_iff_not]
 omega
theorem w4 {r : Rul} {s : Inn} : H3 r s = true ↔ InnOk r s := by
 unfold H3 MR
 simp only [Bool.and_eq_true, Bool.not_eq_true', xe, fP]
 constructor
 ·intro ⟨h1, h2, h3, h4, h5, h6, h7, h8, h9, h10, h11, h12, h13, h14, h15, ⟨n1, n2, n3, n4, n5, n6, n7, n8, n9, n10, n11, n12⟩, h17⟩
  have hc : A4 r = 0 := beq_iff_eq.1 h1
  exact ⟨hc, h2, beq_iff_eq.1 h3, beq_iff_eq.1 h4, beq_iff_eq.1 h5, tg.1 (by rw [h6]; rfl), h7, h8, h9, h10, h11, h12, h13, h14, by rw [lR (LV hc)] at h15; exact h15, n1, n2, n3, n4, n5, n6, n7, n8, n9, n10, n11, n12, h17⟩
 ·intro h
  have h6 := tg.2 h.ending
  rw [Bool.not_eq_true'] at h6
  exact ⟨beq_iff_eq.2 h.code, h.side, beq_iff_eq.2 h.lb, beq_iff_eq.2 h.ld, beq_iff_eq.2 h.lz, h6, h.st, h.ot, h.bat, h.bow, h.kee, h.dw, h.df, h.ov, by rw [lR (LV h.code)]; exact h.io,
   ⟨h.target, h.runs, h.wides, h.noballs, h.byes, h.legbyes, h.pens, h.complete, h.ballage, h.outside, h.rev1, h.rev2⟩, h.bowled⟩
end Go.Px
end
section
namespace Go.Px
set_option maxRecDepth 100000
def xv : Inn := ⟨0, 0, 0, 0, 0, 0, 0, 0, 0, 0, 0, 0, 0, 0, [], 0, [], [], false, [], false, 0, 0, 0, [], 0, 0, 0⟩
def xw (n : Nat) (overs side t p : Int) : Inn := ⟨side, t, overs, p, 0, 0, 0, 0, 0, p, 0, 0, 0, 0, List.replicate n [.int 0], 0, [], [], false, List.replicate n [.int 0], false, 0, 0, 0, List.replicate n [.bool false], 0, 0, 0⟩
def Bz (r : Rul) (side t p : Int) : Inn × Int :=
 cond (!(A4 r == 0)) (xv, A4 r) (cond (!btw side 1 2 || !btw t 0 1000000 || !btw p 0 1000000) (xv, 2) (xw r.side.toNat r.overs side t p, 0))
theorem WL {N : Nat} {r1 r2 r3 r4 r5 r6 r7 r9 r10 r11 r12 : Int} {r8 : Bool} {r0 : ByteArray} {r13 : Rows} {a : Int} {b : Int} {c : Int} (hN : 2097152 < N) (hs : r0.size ≤ 1048576) : Gr N [.str r0, .int r1, .int r2, .int r3, .int r4, .int r5, .int r6, .int r7, .bool r8, .int r9, .int r10, .int r11, .int r12, .rows r13, .int a, .int b, .int c] = some (AZ (Bz (⟨r0, r1, r2, r3, r4, r5, r6, r7, r8, r9, r10, r11, r12, r13⟩ : Rul) a b c)) := by
 show J1 (std (HD N) N) (xOf _) = _
 generalize hres : (some (AZ (Bz (⟨r0, r1, r2, r3, r4, r5, r6, r7, r8, r9, r10, r11, r12, r13⟩ : Rul) a b c)) : Option (List PV)) = RR
 simp only [J1, SU, OB, std, xOf, PXb, DX hN hs, D3]
 subst hres; simp only [Bz]
 cases hc : A4 (⟨r0, r1, r2, r3, r4, r5, r6, r7, r8, r9, r10, r11, r12, r13⟩ : Rul) == 0 with
 | false => rfl
 | true =>
  have rk := (LV (beq_iff_eq.1 hc)).side
  obtain ⟨k, hk⟩ : ∃ k : Nat, r1 = k := ⟨r1.toNat, by simp only at rk; omega⟩
  subst hk
  simp only at rk
  have h1 : iSm (k : Int) 1 = true := Dd (by omega) (by omega)
  have h8 : iSm (k : Int) 8 = true := Dd (by omega) (by omega)
  simp only [PXb, PXc, PXn, PXm, Nat.reduceAdd, Int.reduceBEq, h1, h8]
  cases btw a 1 2 <;> cases btw b 0 1000000 <;> cases btw c 0 1000000 <;> rfl
theorem hZ {N : Nat} {r1 r2 r3 r4 r5 r6 r7 r9 r10 r11 r12 : Int} {r8 : Bool} {r0 : ByteArray} {r13 : Rows} {a : Int} {b : Int} {c : Int} (hN : 2097152 < N) (hs : r0.size ≤ 1048576) : RH N [.str r0, .int r1, .int r2, .int r3, .int r4, .int r5, .int r6, .int r7, .bool r8, .int r9, .int r10, .int r11, .int r12, .rows r13, .int a, .int b, .int c] = some (AZ (Bz (⟨r0, r1, r2, r3, r4, r5, r6, r7, r8, r9, r10, r11, r12, r13⟩ : Rul) a b c)) := by
 show Rn (std (Mf N) N) (xOf _) = _
 generalize hres : (some (AZ (Bz (⟨r0, r1, r2, r3, r4, r5, r6, r7, r8, r9, r10, r11, r12, r13⟩ : Rul) a b c)) : Option (List PV)) = RR
 simp only [Rn, Y6, ce, std, xOf, PXb, E8 hN hs, ep]
 subst hres; simp only [Bz]
 cases hc : A4 (⟨r0, r1, r2, r3, r4, r5, r6, r7, r8, r9, r10, r11, r12, r13⟩ : Rul) == 0 with
 | false => rfl
 | true =>
  have rk := (LV (beq_iff_eq.1 hc)).side
  obtain ⟨k, hk⟩ : ∃ k : Nat, r1 = k := ⟨r1.toNat, by simp only at rk; omega⟩
  subst hk
  simp only at rk
  simp only [PXb]
  cases btw a 1 2 <;> try rfl
  cases btw b 0 1000000 <;> try rfl
  cases btw c 0 1000000 <;> try rfl
  simp only [PXb]
  refine AK (DK (len := k) (fun i => [.int (i : Int), .int a, .int b, .int r3, .int c, .int 0, .int 0, .int 0, .int 0, .int 0, .int c, .int 0, .int 0, .int 0, .int 0, .rows (List.replicate i [.int 0]), .int 0, .rows [], .rows [], .bool false, .rows (List.replicate i [.int 0]), .bool false, .int 0, .int 0, .int 0, .rows (List.replicate i [.bool false]), .int 0, .int 0, .int 0]) (xw k r3 a b c).ls ?_ ?_ N (by omega)) rfl
  ·intro self
   simp only [PXb, PXc, PXn, PXm, Nat.reduceAdd, Int.reduceBEq, Ao]
   rfl
  ·intro i self hi
   have l1 : (List.replicate i [PV.int 0] ++ [[PV.int 0]]).length ≤ 1048576 := by simp; omega
   have l2 : (List.replicate i [PV.bool false] ++ [[PV.bool false]]).length ≤ 1048576 := by simp; omega
   simp only [PXb, PXc, PXn, PXm, Nat.reduceAdd, Int.reduceBEq, AQ (show i ≤ 1099511627776 by omega), Ah hi, Kb l1 (show 1 ≤ 4096 by omega), Kb l1 (show 8 ≤ 4096 by omega), Kb l2 (show 1 ≤ 4096 by omega)]
   rw [List.replicate_succ', List.replicate_succ']
   rfl
theorem KO {N : Nat} {L : Rows} {M : Rows} (hN : 2097152 < N) (hl : L.length ≤ 1048576) : EI N [.rows L, .rows M] = some [.bool (eqL L M)] := by
 show Gm (std (PG N) N) (xOf _) = _
 simp only [Gm, std, xOf, PXb, PXc, PXn, AB]
 unfold eqL
 cases hm : (L.length : Int) == (M.length : Int) with
 | false => rfl
 | true =>
  simp only [PXb, PXc, PXn, AB]
  refine AK (Bj (len := L.length) (fun i => !(atI L i 0 == atI M i 0)) [.bool false] ?_ ?_ N (by omega)) ?_
  ·intro self
   simp only [PXb, PXc, PXn, AB, Ao]
  ·intro i self hi
   simp only [PXb, PXc, PXn, AB, AQ (show i ≤ 1099511627776 by omega), Ah hi, AO hi, fe hm hi, BI]
  ·cases Am (fun i => !(atI L i 0 == atI M i 0)) L.length 0 <;> rfl
theorem Yn {N : Nat} {L : Rows} {M : Rows} (hN : 2097152 < N) (hl : L.length ≤ 1048576) : C9 N [.rows L, .rows M] = some [.bool (eqL L M)] := by
 show EU (std (Lg N) N) (xOf _) = _
 simp only [EU, std, xOf, PXb, PXc, PXn, AB]
 unfold eqL
 cases hm : (L.length : Int) == (M.length : Int) with
 | false => rfl
 | true =>
  simp only [PXb, PXc, PXn, AB]
  refine AK (Bj (len := L.length) (fun i => !(atI L i 0 == atI M i 0)) [.bool false] ?_ ?_ N (by omega)) ?_
  ·intro self
   simp only [PXb, PXc, PXn, AB, Ao]
  ·intro i self hi
   simp only [PXb, PXc, PXn, AB, AQ (show i ≤ 1099511627776 by omega), Ah hi, AO hi, fe hm hi, BI]
  ·cases Am (fun i => !(atI L i 0 == atI M i 0)) L.length 0 <;> rfl
theorem cA {N : Nat} {L : Rows} {M : Rows} (hN : 2097152 < N) (hl : L.length ≤ 1048576) : Dl N [.rows L, .rows M] = some [.bool (eqB L M)] := by
 show Fw (std (Nt N) N) (xOf _) = _
 simp only [Fw, std, xOf, PXb, PXc, PXn, AB]
 unfold eqB
 cases hm : (L.length : Int) == (M.length : Int) with
 | false => rfl
 | true =>
  simp only [PXb, PXc, PXn, AB]
  refine AK (Bj (len := L.length) (fun i => !(atB L i 0 == atB M i 0)) [.bool false] ?_ ?_ N (by omega)) ?_
  ·intro self
   simp only [PXb, PXc, PXn, AB, Ao]
  ·intro i self hi
   simp only [PXb, PXc, PXn, AB, AQ (show i ≤ 1099511627776 by omega), Ah hi, AO hi, fe hm hi, fV]
  ·cases Am (fun i => !(atB L i 0 == atB M i 0)) L.length 0 <;> rfl
theorem jX {N : Nat} {s0 s1 s2 s3 s4 s5 s6 s7 s8 s9 s10 s11 s12 s13 s15 s21 s22 s23 s25 s26 s27 : Int} {s18 s20 : Bool} {s14 s16 s17 s19 s24 : Rows}  : Fc N [.int s0, .int s1, .int s2, .int s3, .int s4, .int s5, .int s6, .int s7, .int s8, .int s9, .int s10, .int s11, .int s12, .int s13, .rows s14, .int s15, .rows s16, .rows s17, .bool s18, .rows s19, .bool s20, .int s21, .int s22, .int s23, .rows s24, .int s25, .int s26, .int s27] = some [.int s0, .int s1, .int s2, .int s3, .int s4, .int s10, .int s11, .int s12, .int s13, .int s15, .int s21, .int s22, .int s23, .int s25, .int s26] := by
 show Ii (std (SP N) N) (xOf _) = _
 simp only [Ii, std, xOf, PXb, PXc, PXn, PXm, Nat.reduceAdd, Int.reduceBEq]
theorem mb {N : Nat} {s0 s1 s2 s3 s4 s5 s6 s7 s8 s9 s10 s11 s12 s13 s15 s21 s22 s23 s25 s26 s27 : Int} {s18 s20 : Bool} {s14 s16 s17 s19 s24 : Rows} {t0 t1 t2 t3 t4 t5 t6 t7 t8 t9 t10 t11 t12 t13 t15 t21 t22 t23 t25 t26 t27 : Int} {t18 t20 : Bool} {t14 t16 t17 t19 t24 : Rows} (h : Fit s14 s16 s17 s19 s24) (hN : 2097152 < N) : K2 N [.int s0, .int s1, .int s2, .int s3, .int s4, .int s5, .int s6, .int s7, .int s8, .int s9, .int s10, .int s11, .int s12, .int s13, .rows s14, .int s15, .rows s16, .rows s17, .bool s18, .rows s19, .bool s20, .int s21, .int s22, .int s23, .rows s24, .int s25, .int s26, .int s27, .int t0, .int t1, .int t2, .int t3, .int t4, .int t5, .int t6, .int t7, .int t8, .int t9, .int t10, .int t11, .int t12, .int t13, .rows t14, .int t15, .rows t16, .rows t17, .bool t18, .rows t19, .bool t20, .int t21, .int t22, .int t23, .rows t24, .int t25, .int t26, .int t27] = some [.bool (fR (⟨s0, s1, s2, s3, s4, s5, s6, s7, s8, s9, s10, s11, s12, s13, s14, s15, s16, s17, s18, s19, s20, s21, s22, s23, s24, s25, s26, s27⟩ : Inn) (⟨t0, t1, t2, t3, t4, t5, t6, t7, t8, t9, t10, t11, t12, t13, t14, t15, t16, t17, t18, t19, t20, t21, t22, t23, t24, t25, t26, t27⟩ : Inn))] := by
 show LI (std (Dt N) N) (xOf _) = _
 generalize hres : (some [.bool (fR (⟨s0, s1, s2, s3, s4, s5, s6, s7, s8, s9, s10, s11, s12, s13, s14, s15, s16, s17, s18, s19, s20, s21, s22, s23, s24, s25, s26, s27⟩ : Inn) (⟨t0, t1, t2, t3, t4, t5, t6, t7, t8, t9, t10, t11, t12, t13, t14, t15, t16, t17, t18, t19, t20, t21, t22, t23, t24, t25, t26, t27⟩ : Inn))] : Option (List PV)) = RR
 simp only [LI, Lh, OJ, NP, P9, std, xOf, PXb, PXc, PXn, PXm, Nat.reduceAdd, Int.reduceBEq, Yn hN h.bt, KO hN h.bw', KO hN h.bf, KO hN h.bd, cA hN h.sb, jX]
 subst hres; simp only [fR, eqN]
 refine congrArg (fun z => some [PV.bool z]) ?_
 simp only [Bool.and_assoc, Bool.and_comm, Bool.and_left_comm]
theorem II (r : Rul) (side t p : Int) : (Bz r side t p).1.Fit ∧ (Bz r side t p).1.before = [] ∧ (Bz r side t p).1.bowlers = [] := by
 unfold Bz
 cases hc : A4 r == 0 with
 | false => exact ⟨⟨by show 0 ≤ 1048576; omega, by show 0 ≤ 1048576; omega, by show 0 ≤ 1048576; omega, by show 0 ≤ 1048576; omega, by show 0 ≤ 1048576; omega⟩, rfl, rfl⟩
 | true =>
  have hs := (LV (beq_iff_eq.1 hc)).side
  have hl : ∀ x : List PV, (List.replicate r.side.toNat x).length ≤ 1048576 := fun x => by rw [List.length_replicate]; omega
  cases (!btw side 1 2 || !btw t 0 1000000 || !btw p 0 1000000) with
  | true => exact ⟨⟨by show 0 ≤ 1048576; omega, by show 0 ≤ 1048576; omega, by show 0 ≤ 1048576; omega, by show 0 ≤ 1048576; omega, by show 0 ≤ 1048576; omega⟩, rfl, rfl⟩
  | false => exact ⟨⟨hl _, by show 0 ≤ 1048576; omega, by show 0 ≤ 1048576; omega, hl _, hl _⟩, rfl, rfl⟩
theorem yo {s : Inn} (h : s.Fit) : (Pg s).Fit := ⟨h.bt, h.bw, h.bf, h.bd, h.sb⟩
end Go.Px
end
section
namespace Go.Px
set_option maxRecDepth 100000
structure BatOk (L : Rows) (s n wk : Int) : Prop where
 le : ∀ i, i < L.length → atI L i 0 ≤ 3
 at1 : ∀ i, i < L.length → (atI L i 0 = 1 ↔ (s = (i : Int) + 1 ∨ n = (i : Int) + 1))
 here : Cd L = true → s ≠ 0 ∨ n ≠ 0
 ne : s ≠ 0 → s ≠ n
 wk : wk = jY L
end Go.Px
end
section
namespace Go.Px
set_option maxRecDepth 100000
theorem yf {r : Rul} {s : Inn} (h : InnOk r s) : 2 ≤ r.side ∧ r.side ≤ 11 := (LV h.code).side
end Go.Px
end
section
namespace Go.Px
set_option maxRecDepth 100000
structure Small (s : Inn) : Prop where
 target : s.target ≤ 999999900
 runs : s.runs ≤ 999999900
 wides : s.wides ≤ 999999900
 noballs : s.noballs ≤ 999999900
 byes : s.byes ≤ 999999900
 legbyes : s.legbyes ≤ 999999900
 pens : s.pens ≤ 999999900
 complete : s.complete ≤ 999999900
 ballage : s.ballage ≤ 999999900
 rev1 : s.rev1 ≤ 999999900
 rev2 : s.rev2 ≤ 999999900
 bowled : ∀ j, j < s.bowled.length → atI s.bowled j 0 ≤ 999999900
end Go.Px
end
section
namespace Go.Px
def AP (xs : List Inn) : Rows := xs.map Inn.ls
def dI : Inn := ⟨0, 0, 0, 0, 0, 0, 0, 0, 0, 0, 0, 0, 0, 0, [], 0, [], [], false, [], false, 0, 0, 0, [], 0, 0, 0⟩
def inn (xs : List Inn) (i : Nat) : Inn := xs.getD i dI
structure Mat where
 rules : Rul
 stage : Int
 first : Int
 follow : Bool
 inns : List Inn
 pen1 : Int
 pen2 : Int
 win : Int
 wside : Int
 margin : Int
def Mat.ls (m : Mat) : List PV := [.str m.rules.name, .int m.rules.side, .int m.rules.innings, .int m.rules.overs, .int m.rules.balls, .int m.rules.quota, .int m.rules.wide, .int m.rules.noball, .bool m.rules.freehit, .int m.rules.newball, .int m.rules.followon, .int m.rules.reviews, .int m.rules.outside, .rows m.rules.power, .int m.stage, .int m.first, .bool m.follow, .rows (AP m.inns), .int m.pen1, .int m.pen2, .int m.win, .int m.wside, .int m.margin]
def G7 (x : Mat × Int) : List PV := [.str x.1.rules.name, .int x.1.rules.side, .int x.1.rules.innings, .int x.1.rules.overs, .int x.1.rules.balls, .int x.1.rules.quota, .int x.1.rules.wide, .int x.1.rules.noball, .bool x.1.rules.freehit, .int x.1.rules.newball, .int x.1.rules.followon, .int x.1.rules.reviews, .int x.1.rules.outside, .rows x.1.rules.power, .int x.1.stage, .int x.1.first, .bool x.1.follow, .rows (AP x.1.inns), .int x.1.pen1, .int x.1.pen2, .int x.1.win, .int x.1.wside, .int x.1.margin, .int x.2]
theorem mJ (xs : List Inn) (i : Nat) : A6 (AP xs) i = (match xs[i]? with | some s => s.ls | none => []) := by
 unfold A6 AP
 rw [List.getD_eq_getElem?_getD, List.getElem?_map]
 cases xs[i]? <;> rfl
theorem Ur (xs : List Inn) (i : Nat) : inn xs i = (match xs[i]? with | some s => s | none => dI) := by
 unfold inn
 rw [List.getD_eq_getElem?_getD]
 cases xs[i]? <;> rfl
theorem jg (xs : List Inn) : (AP xs).length = xs.length := List.length_map _
theorem PXi : (∀ xs : List Inn, (AP xs).length = xs.length) ∧ (∀ (xs : List Inn) (i : Nat), pvI (AJ (AP xs) i 0) = (inn xs i).side) ∧ (∀ (xs : List Inn) (i : Nat), pvI (AJ (AP xs) i 1) = (inn xs i).target) ∧ (∀ (xs : List Inn) (i : Nat), pvI (AJ (AP xs) i 2) = (inn xs i).overs) ∧ (∀ (xs : List Inn) (i : Nat), pvI (AJ (AP xs) i 3) = (inn xs i).runs) ∧
    (∀ (xs : List Inn) (i : Nat), pvI (AJ (AP xs) i 4) = (inn xs i).wickets) ∧ (∀ (xs : List Inn) (i : Nat), pvI (AJ (AP xs) i 5) = (inn xs i).wides) ∧ (∀ (xs : List Inn) (i : Nat), pvI (AJ (AP xs) i 6) = (inn xs i).noballs) ∧ (∀ (xs : List Inn) (i : Nat), pvI (AJ (AP xs) i 7) = (inn xs i).byes) ∧ (∀ (xs : List Inn) (i : Nat), pvI (AJ (AP xs) i 8) = (inn xs i).legbyes) ∧
    (∀ (xs : List Inn) (i : Nat), pvI (AJ (AP xs) i 9) = (inn xs i).pens) ∧ (∀ (xs : List Inn) (i : Nat), pvI (AJ (AP xs) i 10) = (inn xs i).complete) ∧ (∀ (xs : List Inn) (i : Nat), pvI (AJ (AP xs) i 11) = (inn xs i).inover) ∧ (∀ (xs : List Inn) (i : Nat), pvI (AJ (AP xs) i 12) = (inn xs i).striker) ∧ (∀ (xs : List Inn) (i : Nat), pvI (AJ (AP xs) i 13) = (inn xs i).other) ∧
    (∀ (xs : List Inn) (i : Nat), pvL (AJ (AP xs) i 14) = (inn xs i).batters) ∧ (∀ (xs : List Inn) (i : Nat), pvI (AJ (AP xs) i 15) = (inn xs i).bowler) ∧ (∀ (xs : List Inn) (i : Nat), pvL (AJ (AP xs) i 16) = (inn xs i).bowlers) ∧ (∀ (xs : List Inn) (i : Nat), pvL (AJ (AP xs) i 17) = (inn xs i).before) ∧ (∀ (xs : List Inn) (i : Nat), pvB (AJ (AP xs) i 18) = (inn xs i).fresh) ∧
    (∀ (xs : List Inn) (i : Nat), pvL (AJ (AP xs) i 19) = (inn xs i).bowled) ∧ (∀ (xs : List Inn) (i : Nat), pvB (AJ (AP xs) i 20) = (inn xs i).freehit) ∧ (∀ (xs : List Inn) (i : Nat), pvI (AJ (AP xs) i 21) = (inn xs i).ballage) ∧ (∀ (xs : List Inn) (i : Nat), pvI (AJ (AP xs) i 22) = (inn xs i).keeper) ∧ (∀ (xs : List Inn) (i : Nat), pvI (AJ (AP xs) i 23) = (inn xs i).outside) ∧
    (∀ (xs : List Inn) (i : Nat), pvL (AJ (AP xs) i 24) = (inn xs i).subs) ∧ (∀ (xs : List Inn) (i : Nat), pvI (AJ (AP xs) i 25) = (inn xs i).rev1) ∧ (∀ (xs : List Inn) (i : Nat), pvI (AJ (AP xs) i 26) = (inn xs i).rev2) ∧ (∀ (xs : List Inn) (i : Nat), pvI (AJ (AP xs) i 27) = (inn xs i).ending) := by
  refine ⟨jg, ?_, ?_, ?_, ?_, ?_, ?_, ?_, ?_, ?_, ?_, ?_, ?_, ?_, ?_, ?_, ?_, ?_, ?_, ?_, ?_, ?_, ?_, ?_, ?_, ?_, ?_, ?_, ?_⟩
  all_goals (intro xs i; rw [Ur]; unfold AJ; rw [mJ]; cases xs[i]? <;> rfl)
theorem Mat.eta (m : Mat) : Mat.mk m.rules m.stage m.first m.follow m.inns m.pen1 m.pen2 m.win m.wside m.margin = m := rfl
theorem PXk : (∀ m : Mat, m.ls = [.str m.rules.name, .int m.rules.side, .int m.rules.innings, .int m.rules.overs, .int m.rules.balls, .int m.rules.quota, .int m.rules.wide, .int m.rules.noball, .bool m.rules.freehit, .int m.rules.newball, .int m.rules.followon, .int m.rules.reviews, .int m.rules.outside, .rows m.rules.power, .int m.stage, .int m.first, .bool m.follow, .rows (AP m.inns), .int m.pen1, .int m.pen2, .int m.win, .int m.wside, .int m.margin]) ∧
    (∀ x : Mat × Int, G7 x = [.str x.1.rules.name, .int x.1.rules.side, .int x.1.rules.innings, .int x.1.rules.overs, .int x.1.rules.balls, .int x.1.rules.quota, .int x.1.rules.wide, .int x.1.rules.noball, .bool x.1.rules.freehit, .int x.1.rules.newball, .int x.1.rules.followon, .int x.1.rules.reviews, .int x.1.rules.outside, .rows x.1.rules.power, .int x.1.stage, .int x.1.first, .bool x.1.follow, .rows (AP x.1.inns), .int x.1.pen1, .int x.1.pen2, .int x.1.win, .int x.1.wside, .int x.1.margin, .int x.2]) ∧
    (∀ m : Mat, Mat.mk m.rules m.stage m.first m.follow m.inns m.pen1 m.pen2 m.win m.wside m.margin = m) := ⟨fun _ => rfl, fun _ => rfl, fun _ => rfl⟩
theorem tj : ∀ (ps r pre : List PV), r.length = ps.length → Bw (pre ++ r) pre.length ps = pre ++ ps
 | [], r, pre, h => by
  have : r = [] := List.eq_nil_of_length_eq_zero h
  subst this
  rfl
 | p :: ps, [], pre, h => by cases h
 | p :: ps, a :: r, pre, h => by
  have ih := tj ps r (pre ++ [p]) (by simpa using h)
  simp only [List.length_append, List.length_cons, List.length_nil, List.append_assoc, List.cons_append, List.nil_append] at ih
  unfold Bw
  rw [List.set_append_right _ _ (Nat.le_refl _), Nat.sub_self]
  exact ih
theorem zI (a s : Inn) : Bw a.ls 0 s.ls = s.ls := tj s.ls a.ls [] rfl
theorem yO (a : Inn) (e : Int) : Bw a.ls 27 [.int e] = Inn.ls { a with ending := e } := by
 show a.ls.set 27 (.int e) = _
 rfl
theorem yk {xs : List Inn} {i : Nat} (h : i < xs.length) (s : Inn) : (AP xs).set i (Bw (A6 (AP xs) i) 0 s.ls) = AP (xs.set i s) := by
 have e : A6 (AP xs) i = (xs[i]).ls := by rw [mJ, List.getElem?_eq_getElem h]
 rw [e, zI]
 exact List.map_set.symm
theorem yM {xs : List Inn} {i : Nat} (h : i < xs.length) (e : Int) : (AP xs).set i (Bw (A6 (AP xs) i) 27 [.int e]) = AP (xs.set i { inn xs i with ending := e }) := by
 have e1 : A6 (AP xs) i = (inn xs i).ls := by rw [mJ, Ur, List.getElem?_eq_getElem h]
 rw [e1, yO]
 exact List.map_set.symm
theorem yL (xs : List Inn) (s : Inn) : AP xs ++ [s.ls] = AP (xs ++ [s]) := by
 show List.map Inn.ls xs ++ List.map Inn.ls [s] = List.map Inn.ls (xs ++ [s])
 exact List.map_append.symm
theorem yg (xs : List Inn) (i : Nat) (s : Inn) : (AP xs).set i (Bw (A6 (AP xs) i) 0 s.ls) = AP (xs.set i s) := by
 by_cases h : i < xs.length
 ·exact yk h s
 ·rw [List.set_eq_of_length_le (by rw [jg]; omega), List.set_eq_of_length_le (by omega)]
theorem tM (xs : List Inn) (i : Nat) (e : Int) : (AP xs).set i (Bw (A6 (AP xs) i) 27 [.int e]) = AP (xs.set i { inn xs i with ending := e }) := by
 by_cases h : i < xs.length
 ·exact yM h e
 ·rw [List.set_eq_of_length_le (by rw [jg]; omega), List.set_eq_of_length_le (by omega)]
theorem PXr : (∀ (xs : List Inn) (x0 x1 x2 x3 x4 x5 x6 x7 x8 x9 x10 x11 x12 x13 x15 x21 x22 x23 x25 x26 x27 : Int) (x18 x20 : Bool) (x14 x16 x17 x19 x24 : Rows), AP xs ++ [([.int x0, .int x1, .int x2, .int x3, .int x4, .int x5, .int x6, .int x7, .int x8, .int x9, .int x10, .int x11, .int x12, .int x13, .rows x14, .int x15, .rows x16, .rows x17, .bool x18, .rows x19, .bool x20, .int x21, .int x22, .int x23, .rows x24, .int x25, .int x26, .int x27] : List PV)] = AP (xs ++ [⟨x0, x1, x2, x3, x4, x5, x6, x7, x8, x9, x10, x11, x12, x13, x14, x15, x16, x17, x18, x19, x20, x21, x22, x23, x24, x25, x26, x27⟩])) ∧ (∀ (xs : List Inn) (i : Nat) (x0 x1 x2 x3 x4 x5 x6 x7 x8 x9 x10 x11 x12 x13 x15 x21 x22 x23 x25 x26 x27 : Int) (x18 x20 : Bool) (x14 x16 x17 x19 x24 : Rows), (AP xs).set i (Bw (A6 (AP xs) i) 0 [.int x0, .int x1, .int x2, .int x3, .int x4, .int x5, .int x6, .int x7, .int x8, .int x9, .int x10, .int x11, .int x12, .int x13, .rows x14, .int x15, .rows x16, .rows x17, .bool x18, .rows x19, .bool x20, .int x21, .int x22, .int x23, .rows x24, .int x25, .int x26, .int x27]) = AP (xs.set i ⟨x0, x1, x2, x3, x4, x5, x6, x7, x8, x9, x10, x11, x12, x13, x14, x15, x16, x17, x18, x19, x20, x21, x22, x23, x24, x25, x26, x27⟩)) ∧
    (∀ (xs : List Inn) (i : Nat) (e : Int), (AP xs).set i (Bw (A6 (AP xs) i) 27 [.int e]) = AP (xs.set i { inn xs i with ending := e })) :=
  ⟨fun xs x0 x1 x2 x3 x4 x5 x6 x7 x8 x9 x10 x11 x12 x13 x15 x21 x22 x23 x25 x26 x27 x18 x20 x14 x16 x17 x19 x24 => yL xs ⟨x0, x1, x2, x3, x4, x5, x6, x7, x8, x9, x10, x11, x12, x13, x14, x15, x16, x17, x18, x19, x20, x21, x22, x23, x24, x25, x26, x27⟩, fun xs i x0 x1 x2 x3 x4 x5 x6 x7 x8 x9 x10 x11 x12 x13 x15 x21 x22 x23 x25 x26 x27 x18 x20 x14 x16 x17 x19 x24 => yg xs i ⟨x0, x1, x2, x3, x4, x5, x6, x7, x8, x9, x10, x11, x12, x13, x14, x15, x16, x17, x18, x19, x20, x21, x22, x23, x24, x25, x26, x27⟩, tM⟩
end Go.Px
end
section
namespace Go.Px
set_option maxRecDepth 100000
def Bo (n : Int) : Int := IntKind.i64.wrap (3 - n)
theorem Iw {N : Nat} {n : Int}  : BK N [.int n] = some [.int (Bo n)] := by
 show M4 (std (WI N) N) (xOf _) = _
 simp only [M4, std, xOf, PXb, PXc, PXn, PXm, Nat.reduceAdd, Int.reduceBEq, Bo]
theorem Gu {N : Nat} {n : Int}  : B7 N [.int n] = some [.int (Bo n)] := by
 show Rb (std (ar N) N) (xOf _) = _
 simp only [Rb, std, xOf, PXb, PXc, PXn, PXm, Nat.reduceAdd, Int.reduceBEq, Bo]
def D5 (m : Mat) (i : Int) : Int := cond (cond (m.follow && iLe 2 i) (i == 2) (i.tmod 2 == 1)) (Bo m.first) m.first
theorem Si {N : Nat} {m1 m2 m3 m4 m5 m6 m7 m9 m10 m11 m12 m14 m15 m18 m19 m20 m21 m22 : Int} {m8 m16 : Bool} {m0 : ByteArray} {m13 : Rows} {m17 : List Inn} {i : Int}  : DU N [.str m0, .int m1, .int m2, .int m3, .int m4, .int m5, .int m6, .int m7, .bool m8, .int m9, .int m10, .int m11, .int m12, .rows m13, .int m14, .int m15, .bool m16, .rows (AP m17), .int m18, .int m19, .int m20, .int m21, .int m22, .int i] = some [.int (D5 (⟨⟨m0, m1, m2, m3, m4, m5, m6, m7, m8, m9, m10, m11, m12, m13⟩, m14, m15, m16, m17, m18, m19, m20, m21, m22⟩ : Mat) i)] := by
 show Mz (std (O3 N) N) (xOf _) = _
 generalize hres : (some [.int (D5 (⟨⟨m0, m1, m2, m3, m4, m5, m6, m7, m8, m9, m10, m11, m12, m13⟩, m14, m15, m16, m17, m18, m19, m20, m21, m22⟩ : Mat) i)] : Option (List PV)) = RR
 simp only [Mz, Tr, std, xOf, PXb, PXc, PXn, PXm, Nat.reduceAdd, Int.reduceBEq, Iw]
 subst hres; simp only [D5]
theorem da {N : Nat} {m1 m2 m3 m4 m5 m6 m7 m9 m10 m11 m12 m14 m15 m18 m19 m20 m21 m22 : Int} {m8 m16 : Bool} {m0 : ByteArray} {m13 : Rows} {m17 : List Inn} {i : Int} (hi : 0 ≤ i ∧ i ≤ 3) : FK N [.str m0, .int m1, .int m2, .int m3, .int m4, .int m5, .int m6, .int m7, .bool m8, .int m9, .int m10, .int m11, .int m12, .rows m13, .int m14, .int m15, .bool m16, .rows (AP m17), .int m18, .int m19, .int m20, .int m21, .int m22, .int i] = some [.int (D5 (⟨⟨m0, m1, m2, m3, m4, m5, m6, m7, m8, m9, m10, m11, m12, m13⟩, m14, m15, m16, m17, m18, m19, m20, m21, m22⟩ : Mat) i)] := by
 show Ps (std (Qa N) N) (xOf _) = _
 generalize hres : (some [.int (D5 (⟨⟨m0, m1, m2, m3, m4, m5, m6, m7, m8, m9, m10, m11, m12, m13⟩, m14, m15, m16, m17, m18, m19, m20, m21, m22⟩ : Mat) i)] : Option (List PV)) = RR
 simp only [Ps, Xz, std, xOf, PXb, PXc, PXn, PXm, Nat.reduceAdd, Int.reduceBEq, Gu]
 subst hres; simp only [D5]
 have : i = 0 ∨ i = 1 ∨ i = 2 ∨ i = 3 := by omega
 rcases this with h | h | h | h <;> subst h <;> cases m16 <;> rfl
def Gv (xs : List Inn) (side : Int) : Nat → Int
 | 0 => 0
 | i + 1 => cond ((inn xs i).side == side) (IntKind.i64.wrap (Gv xs side i + (inn xs i).runs)) (Gv xs side i)
def BB (m : Mat) (side : Int) : Int := Gv m.inns side m.inns.length
theorem So {N : Nat} {m1 m2 m3 m4 m5 m6 m7 m9 m10 m11 m12 m14 m15 m18 m19 m20 m21 m22 : Int} {m8 m16 : Bool} {m0 : ByteArray} {m13 : Rows} {m17 : List Inn} {n : Int} (hN : 2097152 < N) (hl : m17.length ≤ 1048576) : Bx N [.str m0, .int m1, .int m2, .int m3, .int m4, .int m5, .int m6, .int m7, .bool m8, .int m9, .int m10, .int m11, .int m12, .rows m13, .int m14, .int m15, .bool m16, .rows (AP m17), .int m18, .int m19, .int m20, .int m21, .int m22, .int n] = some [.int (BB (⟨⟨m0, m1, m2, m3, m4, m5, m6, m7, m8, m9, m10, m11, m12, m13⟩, m14, m15, m16, m17, m18, m19, m20, m21, m22⟩ : Mat) n)] := by
 show Mw (std (We N) N) (xOf _) = _
 generalize hres : (some [.int (BB (⟨⟨m0, m1, m2, m3, m4, m5, m6, m7, m8, m9, m10, m11, m12, m13⟩, m14, m15, m16, m17, m18, m19, m20, m21, m22⟩ : Mat) n)] : Option (List PV)) = RR
 simp only [Mw, std, xOf, PXb, PXi]
 subst hres; simp only [BB]
 refine AK (DK (len := m17.length) (fun i => [.int (Gv m17 n i), .int (i : Int)]) [.int (Gv m17 n m17.length)] ?_ ?_ N (by omega)) rfl
 ·intro self
  simp only [PXb, PXc, PXn, AB, Ao]
 ·intro i self hi
  simp only [PXb, PXc, AB, AQ (show i ≤ 1099511627776 by omega), Ah hi, AO hi, PXi, Gv]
  cases (inn m17 i).side == n <;> rfl
theorem L1 {N : Nat} {m1 m2 m3 m4 m5 m6 m7 m9 m10 m11 m12 m14 m15 m18 m19 m20 m21 m22 : Int} {m8 m16 : Bool} {m0 : ByteArray} {m13 : Rows} {m17 : List Inn} {n : Int} (hN : 2097152 < N) (hl : m17.length ≤ 1048576) : E7 N [.str m0, .int m1, .int m2, .int m3, .int m4, .int m5, .int m6, .int m7, .bool m8, .int m9, .int m10, .int m11, .int m12, .rows m13, .int m14, .int m15, .bool m16, .rows (AP m17), .int m18, .int m19, .int m20, .int m21, .int m22, .int n] = some [.int (BB (⟨⟨m0, m1, m2, m3, m4, m5, m6, m7, m8, m9, m10, m11, m12, m13⟩, m14, m15, m16, m17, m18, m19, m20, m21, m22⟩ : Mat) n)] := by
 show RK (std (bz N) N) (xOf _) = _
 generalize hres : (some [.int (BB (⟨⟨m0, m1, m2, m3, m4, m5, m6, m7, m8, m9, m10, m11, m12, m13⟩, m14, m15, m16, m17, m18, m19, m20, m21, m22⟩ : Mat) n)] : Option (List PV)) = RR
 simp only [RK, std, xOf, PXb, PXi]
 subst hres; simp only [BB]
 refine AK (DK (len := m17.length) (fun i => [.int (Gv m17 n i), .int (i : Int)]) [.int (Gv m17 n m17.length)] ?_ ?_ N (by omega)) rfl
 ·intro self
  simp only [PXb, PXc, PXn, AB, Ao]
 ·intro i self hi
  simp only [PXb, PXc, AB, AQ (show i ≤ 1099511627776 by omega), Ah hi, AO hi, PXi, Gv]
  cases (inn m17 i).side == n <;> rfl
def HW (m : Mat) (side : Int) : Int :=
 cond (iLt (IntKind.i64.wrap ((m.inns.length : Int) + 1)) (IntKind.i64.wrap (2 * m.rules.innings))) 0 (IntKind.i64.wrap (IntKind.i64.wrap (BB m (Bo side) - BB m side) + 1))
theorem ZB {N : Nat} {m1 m2 m3 m4 m5 m6 m7 m9 m10 m11 m12 m14 m15 m18 m19 m20 m21 m22 : Int} {m8 m16 : Bool} {m0 : ByteArray} {m13 : Rows} {m17 : List Inn} {n : Int} (hN : 2097152 < N) (hl : m17.length ≤ 1048576) : HR N [.str m0, .int m1, .int m2, .int m3, .int m4, .int m5, .int m6, .int m7, .bool m8, .int m9, .int m10, .int m11, .int m12, .rows m13, .int m14, .int m15, .bool m16, .rows (AP m17), .int m18, .int m19, .int m20, .int m21, .int m22, .int n] = some [.int (HW (⟨⟨m0, m1, m2, m3, m4, m5, m6, m7, m8, m9, m10, m11, m12, m13⟩, m14, m15, m16, m17, m18, m19, m20, m21, m22⟩ : Mat) n)] := by
 show LF (std (Ik N) N) (xOf _) = _
 generalize hres : (some [.int (HW (⟨⟨m0, m1, m2, m3, m4, m5, m6, m7, m8, m9, m10, m11, m12, m13⟩, m14, m15, m16, m17, m18, m19, m20, m21, m22⟩ : Mat) n)] : Option (List PV)) = RR
 simp only [LF, Se, S6, std, xOf, PXb, PXc, PXn, PXm, Nat.reduceAdd, Int.reduceBEq, PXi, Iw, So hN hl]
 subst hres; simp only [HW]
def Ly (stage : Int) (xs : List Inn) (i : Nat) : Bool := !(((inn xs i).ending == 0) == (stage == 3 && ((i : Int) == IntKind.i64.wrap ((xs.length : Int) - 1))))
def YO (m : Mat) : Bool := !Am (Ly m.stage m.inns) m.inns.length 0 && (!(m.stage == 3) || iLt 0 (m.inns.length : Int))
theorem pP {N : Nat} {m1 m2 m3 m4 m5 m6 m7 m9 m10 m11 m12 m14 m15 m18 m19 m20 m21 m22 : Int} {m8 m16 : Bool} {m0 : ByteArray} {m13 : Rows} {m17 : List Inn} (hN : 2097152 < N) (hl : m17.length ≤ 1048576) : I8 N [.str m0, .int m1, .int m2, .int m3, .int m4, .int m5, .int m6, .int m7, .bool m8, .int m9, .int m10, .int m11, .int m12, .rows m13, .int m14, .int m15, .bool m16, .rows (AP m17), .int m18, .int m19, .int m20, .int m21, .int m22] = some [.bool (YO (⟨⟨m0, m1, m2, m3, m4, m5, m6, m7, m8, m9, m10, m11, m12, m13⟩, m14, m15, m16, m17, m18, m19, m20, m21, m22⟩ : Mat))] := by
 show NA (std (Wv N) N) (xOf _) = _
 generalize hres : (some [.bool (YO (⟨⟨m0, m1, m2, m3, m4, m5, m6, m7, m8, m9, m10, m11, m12, m13⟩, m14, m15, m16, m17, m18, m19, m20, m21, m22⟩ : Mat))] : Option (List PV)) = RR
 simp only [NA, std, xOf, PXb, PXi]
 subst hres; simp only [YO]
 refine AK (Bj (len := m17.length) (Ly m14 m17) [.bool false] ?_ ?_ N (by omega)) ?_
 ·intro self
  simp only [PXb, PXc, PXn, AB, Ao]
 ·intro i self hi
  simp only [PXb, PXc, AB, AQ (show i ≤ 1099511627776 by omega), Ah hi, AO hi, PXi, Ly]
 ·cases Am (Ly m14 m17) m17.length 0 with
  | true => rfl
  | false => simp only [PXb, PXc, PXn, PXm, Nat.reduceAdd, Int.reduceBEq]
end Go.Px
end
section
namespace Go.Px
set_option maxRecDepth 100000
def DH (xs : List Inn) : Prop := ∀ i, i < xs.length → (inn xs i).Fit
theorem bc {N : Nat} {r1 r2 r3 r4 r5 r6 r7 r9 r10 r11 r12 : Int} {r8 : Bool} {r0 : ByteArray} {r13 : Rows} (hl : r13.length ≤ 1048576) : DY N [.str r0, .int r1, .int r2, .int r3, .int r4, .int r5, .int r6, .int r7, .bool r8, .int r9, .int r10, .int r11, .int r12, .rows r13] = some [.str r0, .int r1, .int r2, .int r3, .int r4, .int r5, .int r6, .int r7, .bool r8, .int r9, .int r10, .int r11, .int r12, .rows r13] := by
 show ND (std (Od N) N) (xOf _) = _
 simp only [ND, NW, std, xOf, PXb, PXc, PXn, PXm, Nat.reduceAdd, Int.reduceBEq, DF, BU hl (show 24 ≤ 4096 by omega)]
theorem ij {N : Nat} {r1 r2 r3 r4 r5 r6 r7 r9 r10 r11 r12 : Int} {r8 : Bool} {r0 : ByteArray} {r13 : Rows} (hl : r13.length ≤ 1048576) : E9 N [.str r0, .int r1, .int r2, .int r3, .int r4, .int r5, .int r6, .int r7, .bool r8, .int r9, .int r10, .int r11, .int r12, .rows r13] = some [.str r0, .int r1, .int r2, .int r3, .int r4, .int r5, .int r6, .int r7, .bool r8, .int r9, .int r10, .int r11, .int r12, .rows r13] := by
 show RG (std (bW N) N) (xOf _) = _
 simp only [RG, std, xOf, PXb, PXc, PXn, PXm, Nat.reduceAdd, Int.reduceBEq, Kb hl (show 24 ≤ 4096 by omega)]
theorem ba {xs : List Inn} {i : Nat} (h : i < xs.length) : xs.take i ++ [inn xs i] = xs.take (i + 1) := by
 rw [List.take_add_one, Ur, List.getElem?_eq_getElem h]
 rfl
theorem bn {N : Nat} {m1 m2 m3 m4 m5 m6 m7 m9 m10 m11 m12 m14 m15 m18 m19 m20 m21 m22 : Int} {m8 m16 : Bool} {m0 : ByteArray} {m13 : Rows} {m17 : List Inn} (hf : DH m17) (hN : 2097152 < N) (hl : m17.length ≤ 1000000) (h13 : m13.length ≤ 1048576) : DV N [.str m0, .int m1, .int m2, .int m3, .int m4, .int m5, .int m6, .int m7, .bool m8, .int m9, .int m10, .int m11, .int m12, .rows m13, .int m14, .int m15, .bool m16, .rows (AP m17), .int m18, .int m19, .int m20, .int m21, .int m22] = some [.str m0, .int m1, .int m2, .int m3, .int m4, .int m5, .int m6, .int m7, .bool m8, .int m9, .int m10, .int m11, .int m12, .rows m13, .int m14, .int m15, .bool m16, .rows (AP m17), .int m18, .int m19, .int m20, .int m21, .int m22] := by
 show Mr (std (J0 N) N) (xOf _) = _
 simp only [Mr, UK, H8, std, xOf, PXb, bc h13, PXi]
 refine AK (DK (len := m17.length) (fun i => [.rows (AP (m17.take i)), .int (i : Int)]) [.rows (AP m17)] ?_ ?_ N (by omega)) rfl
 ·intro self
  simp only [PXb, PXc, PXn, AB, Ao, List.take_length]
 ·intro i self hi
  have h2 : (m17.take (i + 1)).length ≤ 1048576 := by rw [List.length_take]; omega
  have h3 : iSm ((m17.take (i + 1)).length : Int) 304 = true := Dd (by omega) (by omega)
  simp only [PXb, PXc, AB, AQ (show i ≤ 1099511627776 by omega), Ah hi, AO hi, PXi, H8, CF (hf i hi), PXr, Inn.eta, h3, ba hi, Nat.reduceAdd]
  rfl
theorem iP {N : Nat} {m1 m2 m3 m4 m5 m6 m7 m9 m10 m11 m12 m14 m15 m18 m19 m20 m21 m22 : Int} {m8 m16 : Bool} {m0 : ByteArray} {m13 : Rows} {m17 : List Inn} (hf : DH m17) (hN : 2097152 < N) (hl : m17.length ≤ 1000000) (h13 : m13.length ≤ 1048576) : RB N [.str m0, .int m1, .int m2, .int m3, .int m4, .int m5, .int m6, .int m7, .bool m8, .int m9, .int m10, .int m11, .int m12, .rows m13, .int m14, .int m15, .bool m16, .rows (AP m17), .int m18, .int m19, .int m20, .int m21, .int m22] = some [.str m0, .int m1, .int m2, .int m3, .int m4, .int m5, .int m6, .int m7, .bool m8, .int m9, .int m10, .int m11, .int m12, .rows m13, .int m14, .int m15, .bool m16, .rows (AP m17), .int m18, .int m19, .int m20, .int m21, .int m22] := by
 show Ri (std (Mx N) N) (xOf _) = _
 simp only [Ri, Y2, Nn, std, xOf, PXb, ij h13, PXi]
 refine AK (DK (len := m17.length) (fun i => [.rows (AP (m17.take i)), .int (i : Int)]) [.rows (AP m17)] ?_ ?_ N (by omega)) rfl
 ·intro self
  simp only [PXb, PXc, PXn, AB, Ao, List.take_length]
 ·intro i self hi
  have h2 : (m17.take (i + 1)).length ≤ 1048576 := by rw [List.length_take]; omega
  have h3 : iSm ((m17.take (i + 1)).length : Int) 304 = true := Dd (by omega) (by omega)
  simp only [PXb, PXc, AB, AQ (show i ≤ 1099511627776 by omega), Ah hi, AO hi, PXi, Nn, Xg (hf i hi), PXr, Inn.eta, h3, ba hi, Nat.reduceAdd]
  rfl
def ze : Rul := ⟨⟨#[]⟩, 0, 0, 0, 0, 0, 0, 0, false, 0, 0, 0, 0, []⟩
def xz : Mat := ⟨ze, 0, 0, false, [], 0, 0, 0, 0, 0⟩
def Cf (r : Rul) : Mat × Int := cond (!(A4 r == 0)) (xz, A4 r) (⟨r, 1, 0, false, [], 0, 0, 0, 0, 0⟩, 0)
theorem il {N : Nat} {r1 r2 r3 r4 r5 r6 r7 r9 r10 r11 r12 : Int} {r8 : Bool} {r0 : ByteArray} {r13 : Rows} (hN : 2097152 < N) (hs : r0.size ≤ 1048576) (h13 : r13.length ≤ 1048576) : Gt N [.str r0, .int r1, .int r2, .int r3, .int r4, .int r5, .int r6, .int r7, .bool r8, .int r9, .int r10, .int r11, .int r12, .rows r13] = some (G7 (Cf (⟨r0, r1, r2, r3, r4, r5, r6, r7, r8, r9, r10, r11, r12, r13⟩ : Rul))) := by
 show Q9 (std (Mv N) N) (xOf _) = _
 generalize hres : (some (G7 (Cf (⟨r0, r1, r2, r3, r4, r5, r6, r7, r8, r9, r10, r11, r12, r13⟩ : Rul))) : Option (List PV)) = RR
 simp only [Q9, V6, V7, std, xOf, PXb, PXc, PXn, PXm, Nat.reduceAdd, Int.reduceBEq, DX hN hs, bc h13]
 subst hres; simp only [Cf]
 cases A4 (⟨r0, r1, r2, r3, r4, r5, r6, r7, r8, r9, r10, r11, r12, r13⟩ : Rul) == 0 <;> rfl
theorem wO {N : Nat} {r1 r2 r3 r4 r5 r6 r7 r9 r10 r11 r12 : Int} {r8 : Bool} {r0 : ByteArray} {r13 : Rows} (hN : 2097152 < N) (hs : r0.size ≤ 1048576) (h13 : r13.length ≤ 1048576) : Ws N [.str r0, .int r1, .int r2, .int r3, .int r4, .int r5, .int r6, .int r7, .bool r8, .int r9, .int r10, .int r11, .int r12, .rows r13] = some (G7 (Cf (⟨r0, r1, r2, r3, r4, r5, r6, r7, r8, r9, r10, r11, r12, r13⟩ : Rul))) := by
 show XB (std (Re N) N) (xOf _) = _
 generalize hres : (some (G7 (Cf (⟨r0, r1, r2, r3, r4, r5, r6, r7, r8, r9, r10, r11, r12, r13⟩ : Rul))) : Option (List PV)) = RR
 simp only [XB, cX, cW, std, xOf, PXb, PXc, PXn, PXm, Nat.reduceAdd, Int.reduceBEq, E8 hN hs, ij h13]
 subst hres; simp only [Cf]
 cases A4 (⟨r0, r1, r2, r3, r4, r5, r6, r7, r8, r9, r10, r11, r12, r13⟩ : Rul) == 0 <;> rfl
def dx (m : Mat) : Bool := (iLt m.pen1 0 || iLt 1000000 m.pen1) || (iLt m.pen2 0 || iLt 1000000 m.pen2)
def J5 (m : Mat) (i : Nat) : Bool := !H3 m.rules (inn m.inns i) || !((inn m.inns i).side == D5 m (i : Int))
def pS (m : Mat) : Bool :=
  let n : Int := m.inns.length
  let most := IntKind.i64.wrap (2 * m.rules.innings)
  A4 m.rules == 0 && (!(iLt m.stage 1) && (!(iLt 5 m.stage) && (!dx m && (!(iLt m.first 0 || iLt 2 m.first || iLt most n) && (!(m.first == 0 && (iLt 0 n || (!(m.stage == 1) && !(m.stage == 5)))) &&
    (!(m.stage == 1 && !(m.first == 0)) && (!(m.stage == 2 && n == most) && (!(m.stage == 4 && (!(m.rules.innings == 2) || !(n == 2))) && !(m.follow && (!(m.rules.innings == 2) || iLt n 2))))))))))
def Cu (m : Mat) : Bool := pS m && (!Am (J5 m) m.inns.length 0 && YO m)
set_option maxHeartbeats 4000000 in
theorem bZ {N : Nat} {m1 m2 m3 m4 m5 m6 m7 m9 m10 m11 m12 m14 m15 m18 m19 m20 m21 m22 : Int} {m8 m16 : Bool} {m0 : ByteArray} {m13 : Rows} {m17 : List Inn} (hf : DH m17) (hN : 2097152 < N) (hl : m17.length ≤ 1000000) (hs : m0.size ≤ 1048576) : DW N [.str m0, .int m1, .int m2, .int m3, .int m4, .int m5, .int m6, .int m7, .bool m8, .int m9, .int m10, .int m11, .int m12, .rows m13, .int m14, .int m15, .bool m16, .rows (AP m17), .int m18, .int m19, .int m20, .int m21, .int m22] = some [.bool (Cu (⟨⟨m0, m1, m2, m3, m4, m5, m6, m7, m8, m9, m10, m11, m12, m13⟩, m14, m15, m16, m17, m18, m19, m20, m21, m22⟩ : Mat))] := by
 show My (std (EV N) N) (xOf _) = _
 generalize hres : (some [.bool (Cu (⟨⟨m0, m1, m2, m3, m4, m5, m6, m7, m8, m9, m10, m11, m12, m13⟩, m14, m15, m16, m17, m18, m19, m20, m21, m22⟩ : Mat))] : Option (List PV)) = RR
 simp only [My, Tk, IA, Jr, Jl, std, xOf, PXb, DX hN hs, PXi]
 subst hres; simp only [Cu, pS]
 cases hc : A4 (⟨⟨m0, m1, m2, m3, m4, m5, m6, m7, m8, m9, m10, m11, m12, m13⟩, m14, m15, m16, m17, m18, m19, m20, m21, m22⟩ : Mat).rules == 0 <;> (try rfl)
 cases h1 : iLt m14 1 <;> (try rfl)
 cases h5 : iLt 5 m14 <;> (try rfl)
 simp only [PXb]
 refine AK (Bj (len := 2) (fun i => iLt (cond ((i : Int) == 1) m19 m18) 0 || iLt 1000000 (cond ((i : Int) == 1) m19 m18)) [.bool false] ?_ ?_ N (by omega)) ?_
 ·intro self
  rfl
 ·intro i self hi
  simp only [PXb, AQ (show i ≤ 1099511627776 by omega), show iLt (i : Int) 2 = true from Ah (len := 2) hi, show iIn (i : Int) 2 = true from AO (len := 2) hi]
 ·have hp : Am (fun i => iLt (cond ((i : Int) == 1) m19 m18) 0 || iLt 1000000 (cond ((i : Int) == 1) m19 m18)) 2 0 = dx (⟨⟨m0, m1, m2, m3, m4, m5, m6, m7, m8, m9, m10, m11, m12, m13⟩, m14, m15, m16, m17, m18, m19, m20, m21, m22⟩ : Mat) := by
   simp only [BP, IE, Bool.or_false]
   rfl
  rw [hp]
  cases dx (⟨⟨m0, m1, m2, m3, m4, m5, m6, m7, m8, m9, m10, m11, m12, m13⟩, m14, m15, m16, m17, m18, m19, m20, m21, m22⟩ : Mat)
  case true => rfl
  simp only [PXb, Cc, Int.reduceBEq]
  cases iLt m15 0 <;> try rfl
  cases iLt 2 m15 <;> try rfl
  cases iLt (IntKind.i64.wrap (2 * m2)) (m17.length : Int) <;> try rfl
  cases (m15 == 0 && (iLt 0 (m17.length : Int) || (!(m14 == 1) && !(m14 == 5)))) <;> try rfl
  cases (m14 == 1 && !(m15 == 0)) <;> try rfl
  cases (m14 == 2 && (m17.length : Int) == IntKind.i64.wrap (2 * m2)) <;> try rfl
  cases (m14 == 4 && (!(m2 == 2) || !((m17.length : Int) == 2))) <;> try rfl
  cases (m16 && (!(m2 == 2) || iLt (m17.length : Int) 2)) <;> try rfl
  simp only [PXb]
  refine AK (Bj (len := m17.length) (J5 (⟨⟨m0, m1, m2, m3, m4, m5, m6, m7, m8, m9, m10, m11, m12, m13⟩, m14, m15, m16, m17, m18, m19, m20, m21, m22⟩ : Mat)) [.bool false] ?_ ?_ N (by omega)) ?_
  ·intro self
   simp only [PXb, PXc, PXn, AB, Ao]
  ·intro i self hi
   simp only [PXb, PXc, PXn, PXm, Nat.reduceAdd, Int.reduceBEq, AQ (show i ≤ 1099511627776 by omega), Ah hi, AO hi, PXi, IA, Jr, W5 (hf i hi) hN hs, Si, J5]
   cases H3 (⟨⟨m0, m1, m2, m3, m4, m5, m6, m7, m8, m9, m10, m11, m12, m13⟩, m14, m15, m16, m17, m18, m19, m20, m21, m22⟩ : Mat).rules (inn m17 i) <;> first | rfl | simp only [PXb, PXc, PXn, PXm, Nat.reduceAdd, Int.reduceBEq]
  ·cases Am (J5 (⟨⟨m0, m1, m2, m3, m4, m5, m6, m7, m8, m9, m10, m11, m12, m13⟩, m14, m15, m16, m17, m18, m19, m20, m21, m22⟩ : Mat)) m17.length 0
   case true => rfl
   simp only [PXb, PXc, PXn, PXm, Nat.reduceAdd, Int.reduceBEq, Jl, pP hN (show m17.length ≤ 1048576 by omega)]
theorem tY (f g : Nat → Bool) : ∀ k i, Am (fun j => f j || g j) k i = (Am f k i || Am g k i)
 | 0, i => rfl
 | k + 1, i => by
  rw [BP, BP, BP, tY f g k (i + 1)]
  cases f i <;> cases g i <;> cases Am f k (i + 1) <;> cases Am g k (i + 1) <;> rfl
theorem lk {N : Nat} {m1 m2 m3 m4 m5 m6 m7 m9 m10 m11 m12 m14 m15 m18 m19 m20 m21 m22 : Int} {m8 m16 : Bool} {m0 : ByteArray} {m13 : Rows} {m17 : List Inn} (hf : DH m17) (hN : 2097152 < N) (hl : m17.length ≤ 4) (hs : m0.size ≤ 1048576) : Gq N [.str m0, .int m1, .int m2, .int m3, .int m4, .int m5, .int m6, .int m7, .bool m8, .int m9, .int m10, .int m11, .int m12, .rows m13, .int m14, .int m15, .bool m16, .rows (AP m17), .int m18, .int m19, .int m20, .int m21, .int m22] = some [.bool (!Am (J5 (⟨⟨m0, m1, m2, m3, m4, m5, m6, m7, m8, m9, m10, m11, m12, m13⟩, m14, m15, m16, m17, m18, m19, m20, m21, m22⟩ : Mat)) m17.length 0 && !Am (Ly m14 m17) m17.length 0)] := by
 show Jy (std (HF N) N) (xOf _) = _
 generalize hres : (some [.bool (!Am (J5 (⟨⟨m0, m1, m2, m3, m4, m5, m6, m7, m8, m9, m10, m11, m12, m13⟩, m14, m15, m16, m17, m18, m19, m20, m21, m22⟩ : Mat)) m17.length 0 && !Am (Ly m14 m17) m17.length 0)] : Option (List PV)) = RR
 simp only [Jy, Jj, Iz, std, xOf, PXb, PXi]
 subst hres
 rw [← Bool.not_or, ← tY]
 refine AK (Bj (len := m17.length) (fun j => J5 (⟨⟨m0, m1, m2, m3, m4, m5, m6, m7, m8, m9, m10, m11, m12, m13⟩, m14, m15, m16, m17, m18, m19, m20, m21, m22⟩ : Mat) j || Ly m14 m17 j) [.bool false] ?_ ?_ N (by omega)) ?_
 ·intro self
  simp only [PXb, PXc, PXn, AB, Ao]
 ·intro i self hi
  have hi3 : 0 ≤ (i : Int) ∧ (i : Int) ≤ 3 := by omega
  simp only [PXb, PXc, PXn, PXm, Nat.reduceAdd, Int.reduceBEq, AQ (show i ≤ 1099511627776 by omega), Ah hi, AO hi, PXi, Jj, Iz, gz (hf i hi) hN hs, da hi3, J5, Ly]
  cases H3 (⟨⟨m0, m1, m2, m3, m4, m5, m6, m7, m8, m9, m10, m11, m12, m13⟩, m14, m15, m16, m17, m18, m19, m20, m21, m22⟩ : Mat).rules (inn m17 i) <;> rfl
 ·cases Am (fun j => J5 (⟨⟨m0, m1, m2, m3, m4, m5, m6, m7, m8, m9, m10, m11, m12, m13⟩, m14, m15, m16, m17, m18, m19, m20, m21, m22⟩ : Mat) j || Ly m14 m17 j) m17.length 0 <;> rfl
set_option maxHeartbeats 4000000 in
theorem XM {N : Nat} {m1 m2 m3 m4 m5 m6 m7 m9 m10 m11 m12 m14 m15 m18 m19 m20 m21 m22 : Int} {m8 m16 : Bool} {m0 : ByteArray} {m13 : Rows} {m17 : List Inn} (hf : DH m17) (hN : 2097152 < N) (hl : m17.length ≤ 1000000) (hs : m0.size ≤ 1048576) : FB N [.str m0, .int m1, .int m2, .int m3, .int m4, .int m5, .int m6, .int m7, .bool m8, .int m9, .int m10, .int m11, .int m12, .rows m13, .int m14, .int m15, .bool m16, .rows (AP m17), .int m18, .int m19, .int m20, .int m21, .int m22] = some [.bool (Cu (⟨⟨m0, m1, m2, m3, m4, m5, m6, m7, m8, m9, m10, m11, m12, m13⟩, m14, m15, m16, m17, m18, m19, m20, m21, m22⟩ : Mat))] := by
 show RL (std (NF N) N) (xOf _) = _
 generalize hres : (some [.bool (Cu (⟨⟨m0, m1, m2, m3, m4, m5, m6, m7, m8, m9, m10, m11, m12, m13⟩, m14, m15, m16, m17, m18, m19, m20, m21, m22⟩ : Mat))] : Option (List PV)) = RR
 simp only [RL, ZD, Jq, std, xOf, PXb, E8 hN hs, PXi]
 subst hres; simp only [Cu, pS]
 cases hc : A4 (⟨⟨m0, m1, m2, m3, m4, m5, m6, m7, m8, m9, m10, m11, m12, m13⟩, m14, m15, m16, m17, m18, m19, m20, m21, m22⟩ : Mat).rules == 0
 case false => simp only [PXb, PXc, PXn, PXm, Nat.reduceAdd, Int.reduceBEq]
 have rk := (LV (beq_iff_eq.1 hc)).innings
 simp only at rk
 have e2 : IntKind.i64.wrap (2 * m2) = 2 * m2 := DG (by omega) (by omega)
 have e4 : (2 * m2 == 4) = (m2 == 2) := by rw [Bool.eq_iff_iff, beq_iff_eq, beq_iff_eq]; omega
 simp only [e2, e4]
 cases h1 : iLt m14 1
 case true => simp only [PXb, PXc, PXn, PXm, Nat.reduceAdd, Int.reduceBEq]
 cases h5 : iLt 5 m14
 case true => simp only [PXb, PXc, PXn, PXm, Nat.reduceAdd, Int.reduceBEq]
 cases hm : iLt (2 * m2) (m17.length : Int)
 case true => simp only [PXb, PXc, PXn, PXm, Nat.reduceAdd, Int.reduceBEq]
 have h4 : m17.length ≤ 4 := by
  simp only [iLt, decide_eq_false_iff_not] at hm
  omega
 simp only [PXb]
 refine AK (Bj (len := 2) (fun i => iLt (cond ((i : Int) == 1) m19 m18) 0 || iLt 1000000 (cond ((i : Int) == 1) m19 m18)) [.bool false] ?_ ?_ N (by omega)) ?_
 ·intro self
  rfl
 ·intro i self hi
  simp only [PXb, AQ (show i ≤ 1099511627776 by omega), show iLt (i : Int) 2 = true from Ah (len := 2) hi, show iIn (i : Int) 2 = true from AO (len := 2) hi]
 ·have hp : Am (fun i => iLt (cond ((i : Int) == 1) m19 m18) 0 || iLt 1000000 (cond ((i : Int) == 1) m19 m18)) 2 0 = dx (⟨⟨m0, m1, m2, m3, m4, m5, m6, m7, m8, m9, m10, m11, m12, m13⟩, m14, m15, m16, m17, m18, m19, m20, m21, m22⟩ : Mat) := by
   simp only [BP, IE, Bool.or_false]
   rfl
  rw [hp]
  cases dx (⟨⟨m0, m1, m2, m3, m4, m5, m6, m7, m8, m9, m10, m11, m12, m13⟩, m14, m15, m16, m17, m18, m19, m20, m21, m22⟩ : Mat)
  case true => rfl
  simp only [PXb, Cc, Int.reduceBEq, Jq, lk hf hN h4 hs, YO, mP (show (0 : Int) ≤ (m17.length : Int) by omega)]
  generalize Am (J5 (⟨⟨m0, m1, m2, m3, m4, m5, m6, m7, m8, m9, m10, m11, m12, m13⟩, m14, m15, m16, m17, m18, m19, m20, m21, m22⟩ : Mat)) m17.length 0 = q1
  generalize Am (Ly m14 m17) m17.length 0 = q2
  generalize (m15 == 0 && (!((m17.length : Int) == 0) || (!(m14 == 1) && !(m14 == 5)))) = q3
  generalize (m14 == 1 && !(m15 == 0)) = q4
  generalize (m14 == 2 && (m17.length : Int) == 2 * m2) = q5
  cases iLt m15 0 <;> cases iLt 2 m15 <;> cases q3 <;> cases q4 <;> cases q5 <;> try (simp only [PXb, PXc, PXn, PXm, Nat.reduceAdd, Int.reduceBEq]; done)
  cases m14 == 3 <;> cases (m17.length : Int) == 0 <;> cases m14 == 4 <;> cases m2 == 2 <;> cases (m17.length : Int) == 2 <;> cases m16 <;> cases iLt (m17.length : Int) 2 <;> cases q1 <;> cases q2 <;> rfl
end Go.Px
end
