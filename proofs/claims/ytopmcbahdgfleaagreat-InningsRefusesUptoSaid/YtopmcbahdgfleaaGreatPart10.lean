/-
The laws of an innings: what an event does.
The laws of an innings: the step.
The laws of an innings: the step, lists that grow little, states that are the same.
The laws of an innings: the step of the reference; states that are the same; InningsSteps.
The laws of an innings: accepted steps; InningsEnds.
The laws of an innings: what a valid state is.
The laws of an innings: InningsScores.
The laws of an innings: how it begins; InningsBegins.
The laws of an innings: batters who go together, kept.
The laws of an innings: an accepted event keeps a state valid.
The laws of an innings: an accepted event keeps a state valid, unless a number is near its bound.
-/
import Derived.Test.YtopmcbahdgfleaaGreatPart09
section
namespace Go.Px
set_option linter.unusedVariables false
set_option linter.unusedSimpArgs false
set_option maxRecDepth 100000

/-- Lists grow little. -/
structure Lens (s t : Inn) : Prop where
  bt : t.batters.length = s.batters.length
  bd : t.bowled.length = s.bowled.length
  sb : t.subs.length = s.subs.length
  bw : t.bowlers.length ≤ s.bowlers.length + 1
  bf : t.before.length ≤ s.before.length + s.bowlers.length + 1
theorem Lens.refl (s : Inn) : Lens s s := ⟨rfl, rfl, rfl, by omega, by omega⟩
theorem P_c {α : Type} {P : α → Prop} (b : Bool) (x y : α) (hx : P x) (hy : P y) : P (cond b x y) := by cases b <;> assumption
theorem ran_lens (s : Inn) (d : Del) : Lens s (ranS s d) := by
  have hb : ∀ (b : Bool), (cond b (setI s.batters s.striker 2) s.batters).length = s.batters.length := fun b => by cases b <;> simp [setI_len]
  have hc : ∀ (b : Bool), (cond b (setI s.batters s.other 2) s.batters).length = s.batters.length := fun b => by cases b <;> simp [setI_len]
  unfold ranS
  cases (!(d.runs.tmod 2 == 0) != d.crossed) <;> refine P_c _ _ _ ⟨hb _, rfl, rfl, ?_, ?_⟩ (P_c _ _ _ ⟨hc _, rfl, rfl, ?_, ?_⟩ ⟨rfl, rfl, rfl, ?_, ?_⟩) <;> simp <;> omega
theorem over_lens (r : Rul) (s : Inn) (c : Bool) : Lens s (overS r s c).1 := by
  have hl : (cond (hasI s.bowlers s.bowlers.length s.bowler) s.bowlers (s.bowlers ++ [[.int s.bowler]])).length ≤ s.bowlers.length + 1 := by
    cases hasI s.bowlers s.bowlers.length s.bowler <;> simp
  have hd : (cond c (setI s.bowled s.bowler (inc (atI s.bowled (ix s.bowler) 0))) s.bowled).length = s.bowled.length := by cases c <;> simp [setI_len]
  unfold overS
  refine P_c (P := fun x : Inn × Bool => Lens s x.1) _ _ _ (Lens.refl s) (P_c (P := fun x : Inn × Bool => Lens s x.1) _ _ _ ⟨rfl, hd, rfl, hl, by simp; omega⟩ ⟨rfl, hd, rfl, by simp, ?_⟩)
  simp only
  omega
def first4 (a b c d : Int) : Int := cond (!(a == 0)) a (cond (!(b == 0)) b (cond (!(c == 0)) c (cond (!(d == 0)) d 0)))
def refuseS (r : Rul) (s : Inn) (d : Del) : Int :=
  cond (shortR s.batters s.striker s.other) 6 (cond (s.bowler == 0) 7 (first4 (readyS r s) (legalS d) (possS d s.freehit) (namedS s d)))
theorem L_innings_refused {N : Nat} {r1 r2 r3 r4 r5 r6 r7 r9 r10 r11 r12 : Int} {r8 : Bool} {r0 : ByteArray} {r13 : Rows} {s0 s1 s2 s3 s4 s5 s6 s7 s8 s9 s10 s11 s12 s13 s15 s21 s22 s23 s25 s26 s27 : Int} {s18 s20 : Bool} {s14 s16 s17 s19 s24 : Rows} {d0 d1 d2 d3 d4 d6 d7 d8 d9 d11 : Int} {d5 d10 : Bool} (h : Fit s14 s16 s17 s19 s24) (hN : 2097152 < N) (h13 : r13.length ≤ 1048576) : c_innings_refused N [.str r0, .int r1, .int r2, .int r3, .int r4, .int r5, .int r6, .int r7, .bool r8, .int r9, .int r10, .int r11, .int r12, .rows r13, .int s0, .int s1, .int s2, .int s3, .int s4, .int s5, .int s6, .int s7, .int s8, .int s9, .int s10, .int s11, .int s12, .int s13, .rows s14, .int s15, .rows s16, .rows s17, .bool s18, .rows s19, .bool s20, .int s21, .int s22, .int s23, .rows s24, .int s25, .int s26, .int s27, .int d0, .int d1, .int d2, .int d3, .int d4, .bool d5, .int d6, .int d7, .int d8, .int d9, .bool d10, .int d11] = some [.int (refuseS (⟨r0, r1, r2, r3, r4, r5, r6, r7, r8, r9, r10, r11, r12, r13⟩ : Rul) (⟨s0, s1, s2, s3, s4, s5, s6, s7, s8, s9, s10, s11, s12, s13, s14, s15, s16, s17, s18, s19, s20, s21, s22, s23, s24, s25, s26, s27⟩ : Inn) (⟨d0, d1, d2, d3, d4, d5, d6, d7, d8, d9, d10, d11⟩ : Del))] := by
  show t_innings_refused (std (env_innings_refused N) N) (xOf _) = _
  generalize hres : (some [.int (refuseS (⟨r0, r1, r2, r3, r4, r5, r6, r7, r8, r9, r10, r11, r12, r13⟩ : Rul) (⟨s0, s1, s2, s3, s4, s5, s6, s7, s8, s9, s10, s11, s12, s13, s14, s15, s16, s17, s18, s19, s20, s21, s22, s23, s24, s25, s26, s27⟩ : Inn) (⟨d0, d1, d2, d3, d4, d5, d6, d7, d8, d9, d10, d11⟩ : Del))] : Option (List PV)) = RR
  simp only [t_innings_refused, e_innings_refused_crease_Vacant, e_innings_refused_delivery_Legal, e_innings_refused_field_Ready, e_innings_refused_dismissal_Possible, e_innings_refused_field_Named, std, xOf, PXb, L_crease_Vacant h.bt hN, L_field_Ready h hN h13, L_delivery_Legal, L_dismissal_Possible hN, L_field_Named h]
  subst hres; simp only [refuseS]
  cases shortR s14 s12 s13 <;> try rfl
  cases s15 == 0 <;> try rfl
  simp only [PXb]
  generalize readyS (⟨r0, r1, r2, r3, r4, r5, r6, r7, r8, r9, r10, r11, r12, r13⟩ : Rul) (⟨s0, s1, s2, s3, s4, s5, s6, s7, s8, s9, s10, s11, s12, s13, s14, s15, s16, s17, s18, s19, s20, s21, s22, s23, s24, s25, s26, s27⟩ : Inn) = a
  generalize legalS (⟨d0, d1, d2, d3, d4, d5, d6, d7, d8, d9, d10, d11⟩ : Del) = b
  generalize possS (⟨d0, d1, d2, d3, d4, d5, d6, d7, d8, d9, d10, d11⟩ : Del) s20 = c
  generalize namedS (⟨s0, s1, s2, s3, s4, s5, s6, s7, s8, s9, s10, s11, s12, s13, s14, s15, s16, s17, s18, s19, s20, s21, s22, s23, s24, s25, s26, s27⟩ : Inn) (⟨d0, d1, d2, d3, d4, d5, d6, d7, d8, d9, d10, d11⟩ : Del) = e
  refine bind_loop (iter_find (len := 4) (fun i => cond (!(atI [[.int a], [.int b], [.int c], [.int e]] i 0 == 0)) (some [.int (atI [[.int a], [.int b], [.int c], [.int e]] i 0)]) none) ?_ ?_ 4 0 N (by omega) (by omega)) ?_
  · intro self
    rfl
  · intro i self hi
    simp only [PXb, wrap_nat (show i ≤ 1099511627776 by omega), List.length_cons, List.length_nil, Nat.reduceAdd, lt_len hi, in_range hi, atI_def]
    cases atI [[.int a], [.int b], [.int c], [.int e]] i 0 == 0 <;> rfl
  · refine (found_code _).trans (congrArg (fun z => some [PV.int z]) ?_)
    unfold first4
    simp only [findR]
    rw [show atI [[.int a], [.int b], [.int c], [.int e]] 0 0 = a from rfl, show atI [[.int a], [.int b], [.int c], [.int e]] (0 + 1) 0 = b from rfl, show atI [[.int a], [.int b], [.int c], [.int e]] (0 + 1 + 1) 0 = c from rfl, show atI [[.int a], [.int b], [.int c], [.int e]] (0 + 1 + 1 + 1) 0 = e from rfl]
    cases a == 0 <;> try rfl
    cases b == 0 <;> try rfl
    cases c == 0 <;> try rfl
    cases e == 0 <;> rfl
theorem fit_of {s t : Inn} (l : Lens s t) (h : s.Fit) (hw : s.before.length + s.bowlers.length ≤ 1048575) : t.Fit := ⟨l.bt ▸ h.bt, by have := l.bw; omega, by have := l.bf; omega, l.bd ▸ h.bd, l.sb ▸ h.sb⟩
theorem ran_bw (s : Inn) (d : Del) : (ranS s d).bowlers = s.bowlers := by
  unfold ranS
  cases (!(d.runs.tmod 2 == 0) != d.crossed) <;> exact P_c (P := fun x : Inn => x.bowlers = s.bowlers) _ _ _ rfl (P_c (P := fun x : Inn => x.bowlers = s.bowlers) _ _ _ rfl rfl)
theorem ran_bf (s : Inn) (d : Del) : (ranS s d).before = s.before := by
  unfold ranS
  cases (!(d.runs.tmod 2 == 0) != d.crossed) <;> exact P_c (P := fun x : Inn => x.before = s.before) _ _ _ rfl (P_c (P := fun x : Inn => x.before = s.before) _ _ _ rfl rfl)
@[reducible] def addS (t : Inn) (a b e f g : Int) : Inn := ⟨t.side, t.target, t.overs, a, t.wickets, b, e, f, g, t.pens, t.complete, t.inover, t.striker, t.other, t.batters, t.bowler, t.bowlers, t.before, t.fresh, t.bowled, t.freehit, t.ballage, t.keeper, t.outside, t.subs, t.rev1, t.rev2, t.ending⟩
def ballS (r : Rul) (s : Inn) (d : Del) : Inn × Int :=
  cond (!(refuseS r s d == 0)) (s, refuseS r s d)
    (let c := creditS r d
     let t := ranS s d
     let o := overS r (addS t (IntKind.i64.wrap (t.runs + totalS c)) (IntKind.i64.wrap (t.wides + c.wides)) (IntKind.i64.wrap (t.noballs + c.noballs)) (IntKind.i64.wrap (t.byes + c.byes)) (IntKind.i64.wrap (t.legbyes + c.legbyes))) c.counts
     let t : Inn := cond o.2 (changeS o.1) o.1
     ({ t with freehit := cond (d.type == 1) false (cond (d.type == 3 && r.freehit) true o.1.freehit) }, 0))
theorem L_innings_ball {N : Nat} {r1 r2 r3 r4 r5 r6 r7 r9 r10 r11 r12 : Int} {r8 : Bool} {r0 : ByteArray} {r13 : Rows} {s0 s1 s2 s3 s4 s5 s6 s7 s8 s9 s10 s11 s12 s13 s15 s21 s22 s23 s25 s26 s27 : Int} {s18 s20 : Bool} {s14 s16 s17 s19 s24 : Rows} {d0 d1 d2 d3 d4 d6 d7 d8 d9 d11 : Int} {d5 d10 : Bool} (h : Fit s14 s16 s17 s19 s24) (hw : s17.length + s16.length ≤ 1000000) (hN : 2097152 < N) (hs : r0.size ≤ 1048576) (h13 : r13.length ≤ 1048576) : c_innings_ball N [.str r0, .int r1, .int r2, .int r3, .int r4, .int r5, .int r6, .int r7, .bool r8, .int r9, .int r10, .int r11, .int r12, .rows r13, .int s0, .int s1, .int s2, .int s3, .int s4, .int s5, .int s6, .int s7, .int s8, .int s9, .int s10, .int s11, .int s12, .int s13, .rows s14, .int s15, .rows s16, .rows s17, .bool s18, .rows s19, .bool s20, .int s21, .int s22, .int s23, .rows s24, .int s25, .int s26, .int s27, .int d0, .int d1, .int d2, .int d3, .int d4, .bool d5, .int d6, .int d7, .int d8, .int d9, .bool d10, .int d11] = some (lawLs (ballS (⟨r0, r1, r2, r3, r4, r5, r6, r7, r8, r9, r10, r11, r12, r13⟩ : Rul) (⟨s0, s1, s2, s3, s4, s5, s6, s7, s8, s9, s10, s11, s12, s13, s14, s15, s16, s17, s18, s19, s20, s21, s22, s23, s24, s25, s26, s27⟩ : Inn) (⟨d0, d1, d2, d3, d4, d5, d6, d7, d8, d9, d10, d11⟩ : Del))) := by
  show t_innings_ball (std (env_innings_ball N) N) (xOf _) = _
  generalize hres : (some (lawLs (ballS (⟨r0, r1, r2, r3, r4, r5, r6, r7, r8, r9, r10, r11, r12, r13⟩ : Rul) (⟨s0, s1, s2, s3, s4, s5, s6, s7, s8, s9, s10, s11, s12, s13, s14, s15, s16, s17, s18, s19, s20, s21, s22, s23, s24, s25, s26, s27⟩ : Inn) (⟨d0, d1, d2, d3, d4, d5, d6, d7, d8, d9, d10, d11⟩ : Del))) : Option (List PV)) = RR
  have l1 := ran_lens (⟨s0, s1, s2, s3, s4, s5, s6, s7, s8, s9, s10, s11, s12, s13, s14, s15, s16, s17, s18, s19, s20, s21, s22, s23, s24, s25, s26, s27⟩ : Inn) (⟨d0, d1, d2, d3, d4, d5, d6, d7, d8, d9, d10, d11⟩ : Del)
  have f1 := fit_of l1 h (by simp only; omega)
  have w1 : (ranS (⟨s0, s1, s2, s3, s4, s5, s6, s7, s8, s9, s10, s11, s12, s13, s14, s15, s16, s17, s18, s19, s20, s21, s22, s23, s24, s25, s26, s27⟩ : Inn) (⟨d0, d1, d2, d3, d4, d5, d6, d7, d8, d9, d10, d11⟩ : Del)).bowlers.length = s16.length := congrArg List.length (ran_bw _ _)
  have w2 : (ranS (⟨s0, s1, s2, s3, s4, s5, s6, s7, s8, s9, s10, s11, s12, s13, s14, s15, s16, s17, s18, s19, s20, s21, s22, s23, s24, s25, s26, s27⟩ : Inn) (⟨d0, d1, d2, d3, d4, d5, d6, d7, d8, d9, d10, d11⟩ : Del)).before.length = s17.length := congrArg List.length (ran_bf _ _)
  have l2 := fun (x : Rul) (c : Bool) (a b e f g : Int) => over_lens x (addS (ranS (⟨s0, s1, s2, s3, s4, s5, s6, s7, s8, s9, s10, s11, s12, s13, s14, s15, s16, s17, s18, s19, s20, s21, s22, s23, s24, s25, s26, s27⟩ : Inn) (⟨d0, d1, d2, d3, d4, d5, d6, d7, d8, d9, d10, d11⟩ : Del)) a b e f g) c
  have f2 := fun (x : Rul) (c : Bool) (a b e f g : Int) => fit_of (l2 x c a b e f g) f1 (show (ranS (⟨s0, s1, s2, s3, s4, s5, s6, s7, s8, s9, s10, s11, s12, s13, s14, s15, s16, s17, s18, s19, s20, s21, s22, s23, s24, s25, s26, s27⟩ : Inn) (⟨d0, d1, d2, d3, d4, d5, d6, d7, d8, d9, d10, d11⟩ : Del)).before.length + (ranS (⟨s0, s1, s2, s3, s4, s5, s6, s7, s8, s9, s10, s11, s12, s13, s14, s15, s16, s17, s18, s19, s20, s21, s22, s23, s24, s25, s26, s27⟩ : Inn) (⟨d0, d1, d2, d3, d4, d5, d6, d7, d8, d9, d10, d11⟩ : Del)).bowlers.length ≤ 1048575 by omega)
  simp only [t_innings_ball, e_innings_ball_innings_Clone, e_innings_ball_delivery_Total, e_innings_ball_delivery_Credit, e_innings_ball_innings_refused, e_innings_ball_crease_Ran, e_innings_ball_spell_Ball, e_innings_ball_crease_Change, std, xOf, PXb, PXc, PXn, PXm, Nat.reduceAdd, Int.reduceBEq, L_innings_refused h hN h13, L_innings_Clone h, L_delivery_Credit, L_crease_Ran h, L_delivery_Total, Cre.ls, L_spell_Ball f1 (show (ranS (⟨s0, s1, s2, s3, s4, s5, s6, s7, s8, s9, s10, s11, s12, s13, s14, s15, s16, s17, s18, s19, s20, s21, s22, s23, s24, s25, s26, s27⟩ : Inn) (⟨d0, d1, d2, d3, d4, d5, d6, d7, d8, d9, d10, d11⟩ : Del)).bowlers.length ≤ 1048575 by omega) hN hs, ynLs, L_crease_Change (f2 _ _ _ _ _ _ _)]
  subst hres; simp only [ballS, addS]
  cases refuseS (⟨r0, r1, r2, r3, r4, r5, r6, r7, r8, r9, r10, r11, r12, r13⟩ : Rul) (⟨s0, s1, s2, s3, s4, s5, s6, s7, s8, s9, s10, s11, s12, s13, s14, s15, s16, s17, s18, s19, s20, s21, s22, s23, s24, s25, s26, s27⟩ : Inn) (⟨d0, d1, d2, d3, d4, d5, d6, d7, d8, d9, d10, d11⟩ : Del) == 0 with
  | false => rfl
  | true =>
    obtain ⟨o, ho⟩ : ∃ o, o = overS (⟨r0, r1, r2, r3, r4, r5, r6, r7, r8, r9, r10, r11, r12, r13⟩ : Rul) (addS (ranS (⟨s0, s1, s2, s3, s4, s5, s6, s7, s8, s9, s10, s11, s12, s13, s14, s15, s16, s17, s18, s19, s20, s21, s22, s23, s24, s25, s26, s27⟩ : Inn) (⟨d0, d1, d2, d3, d4, d5, d6, d7, d8, d9, d10, d11⟩ : Del)) (IntKind.i64.wrap ((ranS (⟨s0, s1, s2, s3, s4, s5, s6, s7, s8, s9, s10, s11, s12, s13, s14, s15, s16, s17, s18, s19, s20, s21, s22, s23, s24, s25, s26, s27⟩ : Inn) (⟨d0, d1, d2, d3, d4, d5, d6, d7, d8, d9, d10, d11⟩ : Del)).runs + totalS (creditS (⟨r0, r1, r2, r3, r4, r5, r6, r7, r8, r9, r10, r11, r12, r13⟩ : Rul) (⟨d0, d1, d2, d3, d4, d5, d6, d7, d8, d9, d10, d11⟩ : Del)))) (IntKind.i64.wrap ((ranS (⟨s0, s1, s2, s3, s4, s5, s6, s7, s8, s9, s10, s11, s12, s13, s14, s15, s16, s17, s18, s19, s20, s21, s22, s23, s24, s25, s26, s27⟩ : Inn) (⟨d0, d1, d2, d3, d4, d5, d6, d7, d8, d9, d10, d11⟩ : Del)).wides + (creditS (⟨r0, r1, r2, r3, r4, r5, r6, r7, r8, r9, r10, r11, r12, r13⟩ : Rul) (⟨d0, d1, d2, d3, d4, d5, d6, d7, d8, d9, d10, d11⟩ : Del)).wides)) (IntKind.i64.wrap ((ranS (⟨s0, s1, s2, s3, s4, s5, s6, s7, s8, s9, s10, s11, s12, s13, s14, s15, s16, s17, s18, s19, s20, s21, s22, s23, s24, s25, s26, s27⟩ : Inn) (⟨d0, d1, d2, d3, d4, d5, d6, d7, d8, d9, d10, d11⟩ : Del)).noballs + (creditS (⟨r0, r1, r2, r3, r4, r5, r6, r7, r8, r9, r10, r11, r12, r13⟩ : Rul) (⟨d0, d1, d2, d3, d4, d5, d6, d7, d8, d9, d10, d11⟩ : Del)).noballs)) (IntKind.i64.wrap ((ranS (⟨s0, s1, s2, s3, s4, s5, s6, s7, s8, s9, s10, s11, s12, s13, s14, s15, s16, s17, s18, s19, s20, s21, s22, s23, s24, s25, s26, s27⟩ : Inn) (⟨d0, d1, d2, d3, d4, d5, d6, d7, d8, d9, d10, d11⟩ : Del)).byes + (creditS (⟨r0, r1, r2, r3, r4, r5, r6, r7, r8, r9, r10, r11, r12, r13⟩ : Rul) (⟨d0, d1, d2, d3, d4, d5, d6, d7, d8, d9, d10, d11⟩ : Del)).byes)) (IntKind.i64.wrap ((ranS (⟨s0, s1, s2, s3, s4, s5, s6, s7, s8, s9, s10, s11, s12, s13, s14, s15, s16, s17, s18, s19, s20, s21, s22, s23, s24, s25, s26, s27⟩ : Inn) (⟨d0, d1, d2, d3, d4, d5, d6, d7, d8, d9, d10, d11⟩ : Del)).legbyes + (creditS (⟨r0, r1, r2, r3, r4, r5, r6, r7, r8, r9, r10, r11, r12, r13⟩ : Rul) (⟨d0, d1, d2, d3, d4, d5, d6, d7, d8, d9, d10, d11⟩ : Del)).legbyes))) (creditS (⟨r0, r1, r2, r3, r4, r5, r6, r7, r8, r9, r10, r11, r12, r13⟩ : Rul) (⟨d0, d1, d2, d3, d4, d5, d6, d7, d8, d9, d10, d11⟩ : Del)).counts := ⟨_, rfl⟩
    simp only [addS, totalS] at ho ⊢
    simp only [← ho]
    obtain ⟨o1, o2⟩ := o
    cases o2 <;> cases d0 == 1 <;> cases d0 == 3 <;> cases r8 <;> rfl
theorem over_add (r : Rul) (s : Inn) (b : Bool) (a c d e f : Int) : overS r (addS s a c d e f) b = (addS (overS r s b).1 a c d e f, (overS r s b).2) := by
  unfold overS addS
  simp only
  cases (!inR s.bowler s.bowled.length || !(codeS r == 0)) with
  | true => rfl
  | false =>
    simp only [cond_false]
    cases iLt (cond b (inc s.inover) s.inover) r.balls <;> rfl
theorem over_keep (r : Rul) (s : Inn) (b : Bool) : (overS r s b).1.runs = s.runs ∧ (overS r s b).1.wides = s.wides ∧ (overS r s b).1.noballs = s.noballs ∧ (overS r s b).1.byes = s.byes ∧ (overS r s b).1.legbyes = s.legbyes := by
  unfold overS
  exact P_c (P := fun x : Inn × Bool => x.1.runs = s.runs ∧ x.1.wides = s.wides ∧ x.1.noballs = s.noballs ∧ x.1.byes = s.byes ∧ x.1.legbyes = s.legbyes) _ _ _ ⟨rfl, rfl, rfl, rfl, rfl⟩
    (P_c (P := fun x : Inn × Bool => x.1.runs = s.runs ∧ x.1.wides = s.wides ∧ x.1.noballs = s.noballs ∧ x.1.byes = s.byes ∧ x.1.legbyes = s.legbyes) _ _ _ ⟨rfl, rfl, rfl, rfl, rfl⟩ ⟨rfl, rfl, rfl, rfl, rfl⟩)
def declareS (r : Rul) (s : Inn) (side : Int) : Inn × Int := cond (!(side == s.side)) (s, 2) (cond (!(r.overs == 0)) (s, 20) ({ s with ending := 4 }, 0))
theorem L_innings_declare {N : Nat} {r1 r2 r3 r4 r5 r6 r7 r9 r10 r11 r12 : Int} {r8 : Bool} {r0 : ByteArray} {r13 : Rows} {s0 s1 s2 s3 s4 s5 s6 s7 s8 s9 s10 s11 s12 s13 s15 s21 s22 s23 s25 s26 s27 : Int} {s18 s20 : Bool} {s14 s16 s17 s19 s24 : Rows} {e0 e1 e2 e3 e5 e6 e7 e8 e9 e10 e11 e13 e14 e15 e16 e18 : Int} {e4 e12 e17 : Bool} (h : Fit s14 s16 s17 s19 s24) : c_innings_declare N [.str r0, .int r1, .int r2, .int r3, .int r4, .int r5, .int r6, .int r7, .bool r8, .int r9, .int r10, .int r11, .int r12, .rows r13, .int s0, .int s1, .int s2, .int s3, .int s4, .int s5, .int s6, .int s7, .int s8, .int s9, .int s10, .int s11, .int s12, .int s13, .rows s14, .int s15, .rows s16, .rows s17, .bool s18, .rows s19, .bool s20, .int s21, .int s22, .int s23, .rows s24, .int s25, .int s26, .int s27, .int e0, .int e1, .int e2, .int e3, .bool e4, .int e5, .int e6, .int e7, .int e8, .int e9, .int e10, .int e11, .bool e12, .int e13, .int e14, .int e15, .int e16, .bool e17, .int e18] = some (lawLs (declareS (⟨r0, r1, r2, r3, r4, r5, r6, r7, r8, r9, r10, r11, r12, r13⟩ : Rul) (⟨s0, s1, s2, s3, s4, s5, s6, s7, s8, s9, s10, s11, s12, s13, s14, s15, s16, s17, s18, s19, s20, s21, s22, s23, s24, s25, s26, s27⟩ : Inn) e1)) := by
  show t_innings_declare (std (env_innings_declare N) N) (xOf _) = _
  generalize hres : (some (lawLs (declareS (⟨r0, r1, r2, r3, r4, r5, r6, r7, r8, r9, r10, r11, r12, r13⟩ : Rul) (⟨s0, s1, s2, s3, s4, s5, s6, s7, s8, s9, s10, s11, s12, s13, s14, s15, s16, s17, s18, s19, s20, s21, s22, s23, s24, s25, s26, s27⟩ : Inn) e1)) : Option (List PV)) = RR
  simp only [t_innings_declare, e_innings_declare_innings_Clone, std, xOf, PXb, PXc, PXn, PXm, Nat.reduceAdd, Int.reduceBEq, L_innings_Clone h]
  subst hres; simp only [declareS]
  cases e1 == s0 <;> cases r3 == 0 <;> rfl
def penS (s : Inn) : Inn := { s with runs := IntKind.i64.wrap (s.runs + 5), pens := IntKind.i64.wrap (s.pens + 5) }
theorem L_innings_Penalty {N : Nat} {s0 s1 s2 s3 s4 s5 s6 s7 s8 s9 s10 s11 s12 s13 s15 s21 s22 s23 s25 s26 s27 : Int} {s18 s20 : Bool} {s14 s16 s17 s19 s24 : Rows} (h : Fit s14 s16 s17 s19 s24) : c_innings_Penalty N [.int s0, .int s1, .int s2, .int s3, .int s4, .int s5, .int s6, .int s7, .int s8, .int s9, .int s10, .int s11, .int s12, .int s13, .rows s14, .int s15, .rows s16, .rows s17, .bool s18, .rows s19, .bool s20, .int s21, .int s22, .int s23, .rows s24, .int s25, .int s26, .int s27] = some (penS (⟨s0, s1, s2, s3, s4, s5, s6, s7, s8, s9, s10, s11, s12, s13, s14, s15, s16, s17, s18, s19, s20, s21, s22, s23, s24, s25, s26, s27⟩ : Inn)).ls := by
  show t_innings_Penalty (std (env_innings_Penalty N) N) (xOf _) = _
  generalize hres : (some (penS (⟨s0, s1, s2, s3, s4, s5, s6, s7, s8, s9, s10, s11, s12, s13, s14, s15, s16, s17, s18, s19, s20, s21, s22, s23, s24, s25, s26, s27⟩ : Inn)).ls : Option (List PV)) = RR
  simp only [t_innings_Penalty, e_innings_Penalty_innings_Clone, std, xOf, PXb, PXc, PXn, PXm, Nat.reduceAdd, Int.reduceBEq, L_innings_Clone h]
  subst hres; simp only [penS]
  rfl
def penaltyS (s : Inn) (side runs : Int) : Inn × Int :=
  cond (!(runs == 5)) (s, 23) (cond (side == s.side) (penS s, 0) ({ s with target := cond (iLt 0 s.target) (IntKind.i64.wrap (s.target + 5)) s.target }, 0))
theorem L_innings_penalty {N : Nat} {s0 s1 s2 s3 s4 s5 s6 s7 s8 s9 s10 s11 s12 s13 s15 s21 s22 s23 s25 s26 s27 : Int} {s18 s20 : Bool} {s14 s16 s17 s19 s24 : Rows} {e0 e1 e2 e3 e5 e6 e7 e8 e9 e10 e11 e13 e14 e15 e16 e18 : Int} {e4 e12 e17 : Bool} (h : Fit s14 s16 s17 s19 s24) : c_innings_penalty N [.int s0, .int s1, .int s2, .int s3, .int s4, .int s5, .int s6, .int s7, .int s8, .int s9, .int s10, .int s11, .int s12, .int s13, .rows s14, .int s15, .rows s16, .rows s17, .bool s18, .rows s19, .bool s20, .int s21, .int s22, .int s23, .rows s24, .int s25, .int s26, .int s27, .int e0, .int e1, .int e2, .int e3, .bool e4, .int e5, .int e6, .int e7, .int e8, .int e9, .int e10, .int e11, .bool e12, .int e13, .int e14, .int e15, .int e16, .bool e17, .int e18] = some (lawLs (penaltyS (⟨s0, s1, s2, s3, s4, s5, s6, s7, s8, s9, s10, s11, s12, s13, s14, s15, s16, s17, s18, s19, s20, s21, s22, s23, s24, s25, s26, s27⟩ : Inn) e1 e5)) := by
  show t_innings_penalty (std (env_innings_penalty N) N) (xOf _) = _
  generalize hres : (some (lawLs (penaltyS (⟨s0, s1, s2, s3, s4, s5, s6, s7, s8, s9, s10, s11, s12, s13, s14, s15, s16, s17, s18, s19, s20, s21, s22, s23, s24, s25, s26, s27⟩ : Inn) e1 e5)) : Option (List PV)) = RR
  simp only [t_innings_penalty, e_innings_penalty_innings_Penalty, e_innings_penalty_innings_Clone, std, xOf, PXb, PXc, PXn, PXm, Nat.reduceAdd, Int.reduceBEq, L_innings_Clone h, L_innings_Penalty h]
  subst hres; simp only [penaltyS]
  cases e5 == 5 <;> cases e1 == s0 <;> cases iLt 0 s1 <;> rfl
def reviewS (r : Rul) (s : Inn) (side : Int) (yes : Bool) : Inn × Int :=
  cond (!s.fresh || iLe r.reviews (cond (side == 2) s.rev2 s.rev1)) (s, 24) (cond (!yes) ({ s with rev1 := cond (side == 1) (inc s.rev1) s.rev1, rev2 := cond (side == 2) (inc s.rev2) s.rev2 }, 0) (s, 0))
theorem wr1 : IntKind.i64.wrap (1 - 1) = 0 := rfl
theorem wr2 : IntKind.i64.wrap (2 - 1) = 1 := rfl
theorem in02 : iIn 0 2 = true := rfl
theorem in12 : iIn 1 2 = true := rfl
theorem L_innings_review {N : Nat} {r1 r2 r3 r4 r5 r6 r7 r9 r10 r11 r12 : Int} {r8 : Bool} {r0 : ByteArray} {r13 : Rows} {s0 s1 s2 s3 s4 s5 s6 s7 s8 s9 s10 s11 s12 s13 s15 s21 s22 s23 s25 s26 s27 : Int} {s18 s20 : Bool} {s14 s16 s17 s19 s24 : Rows} {e0 e1 e2 e3 e5 e6 e7 e8 e9 e10 e11 e13 e14 e15 e16 e18 : Int} {e4 e12 e17 : Bool} (h : Fit s14 s16 s17 s19 s24) (he : e1 = 1 ∨ e1 = 2) : c_innings_review N [.str r0, .int r1, .int r2, .int r3, .int r4, .int r5, .int r6, .int r7, .bool r8, .int r9, .int r10, .int r11, .int r12, .rows r13, .int s0, .int s1, .int s2, .int s3, .int s4, .int s5, .int s6, .int s7, .int s8, .int s9, .int s10, .int s11, .int s12, .int s13, .rows s14, .int s15, .rows s16, .rows s17, .bool s18, .rows s19, .bool s20, .int s21, .int s22, .int s23, .rows s24, .int s25, .int s26, .int s27, .int e0, .int e1, .int e2, .int e3, .bool e4, .int e5, .int e6, .int e7, .int e8, .int e9, .int e10, .int e11, .bool e12, .int e13, .int e14, .int e15, .int e16, .bool e17, .int e18] = some (lawLs (reviewS (⟨r0, r1, r2, r3, r4, r5, r6, r7, r8, r9, r10, r11, r12, r13⟩ : Rul) (⟨s0, s1, s2, s3, s4, s5, s6, s7, s8, s9, s10, s11, s12, s13, s14, s15, s16, s17, s18, s19, s20, s21, s22, s23, s24, s25, s26, s27⟩ : Inn) e1 e4)) := by
  show t_innings_review (std (env_innings_review N) N) (xOf _) = _
  generalize hres : (some (lawLs (reviewS (⟨r0, r1, r2, r3, r4, r5, r6, r7, r8, r9, r10, r11, r12, r13⟩ : Rul) (⟨s0, s1, s2, s3, s4, s5, s6, s7, s8, s9, s10, s11, s12, s13, s14, s15, s16, s17, s18, s19, s20, s21, s22, s23, s24, s25, s26, s27⟩ : Inn) e1 e4)) : Option (List PV)) = RR
  rcases he with he | he <;> subst he
  · simp only [t_innings_review, e_innings_review_innings_Clone, std, xOf, PXb, PXc, PXn, PXm, Nat.reduceAdd, Int.reduceBEq, L_innings_Clone h, wr1, wr2, in02, in12]
    subst hres; simp only [reviewS, Int.reduceBEq, beq_self_eq_true, cond_true, cond_false]
    cases s18 <;> cases e4 <;> first | rfl | (cases iLe r11 s25 <;> rfl)
  · simp only [t_innings_review, e_innings_review_innings_Clone, std, xOf, PXb, PXc, PXn, PXm, Nat.reduceAdd, Int.reduceBEq, L_innings_Clone h, wr1, wr2, in02, in12]
    subst hres; simp only [reviewS, Int.reduceBEq, beq_self_eq_true, cond_true, cond_false]
    cases s18 <;> cases e4 <;> first | rfl | (cases iLe r11 s26 <;> rfl)
theorem L_innings_Balls {N : Nat} {r1 r2 r3 r4 r5 r6 r7 r9 r10 r11 r12 : Int} {r8 : Bool} {r0 : ByteArray} {r13 : Rows} {s0 s1 s2 s3 s4 s5 s6 s7 s8 s9 s10 s11 s12 s13 s15 s21 s22 s23 s25 s26 s27 : Int} {s18 s20 : Bool} {s14 s16 s17 s19 s24 : Rows}  : c_innings_Balls N [.str r0, .int r1, .int r2, .int r3, .int r4, .int r5, .int r6, .int r7, .bool r8, .int r9, .int r10, .int r11, .int r12, .rows r13, .int s0, .int s1, .int s2, .int s3, .int s4, .int s5, .int s6, .int s7, .int s8, .int s9, .int s10, .int s11, .int s12, .int s13, .rows s14, .int s15, .rows s16, .rows s17, .bool s18, .rows s19, .bool s20, .int s21, .int s22, .int s23, .rows s24, .int s25, .int s26, .int s27] = some [.int (ballsR r4 s10 s11)] := by
  rfl
def reviseS (r : Rul) (s : Inn) (runs overs : Int) : Inn × Int :=
  cond (r.overs == 0 || (runs == 0 && overs == 0)) (s, 25) (cond (iLt 0 runs && (s.target == 0 || iLe runs s.runs)) (s, 25)
    (cond (iLt 0 overs && (iLt r.overs overs || iLt (IntKind.i64.wrap (overs * r.balls)) (ballsR r.balls s.complete s.inover))) (s, 25)
      ({ s with target := cond (iLt 0 runs) runs s.target, overs := cond (iLt 0 overs) overs s.overs }, 0)))
theorem L_innings_revise {N : Nat} {r1 r2 r3 r4 r5 r6 r7 r9 r10 r11 r12 : Int} {r8 : Bool} {r0 : ByteArray} {r13 : Rows} {s0 s1 s2 s3 s4 s5 s6 s7 s8 s9 s10 s11 s12 s13 s15 s21 s22 s23 s25 s26 s27 : Int} {s18 s20 : Bool} {s14 s16 s17 s19 s24 : Rows} {e0 e1 e2 e3 e5 e6 e7 e8 e9 e10 e11 e13 e14 e15 e16 e18 : Int} {e4 e12 e17 : Bool} (h : Fit s14 s16 s17 s19 s24) : c_innings_revise N [.str r0, .int r1, .int r2, .int r3, .int r4, .int r5, .int r6, .int r7, .bool r8, .int r9, .int r10, .int r11, .int r12, .rows r13, .int s0, .int s1, .int s2, .int s3, .int s4, .int s5, .int s6, .int s7, .int s8, .int s9, .int s10, .int s11, .int s12, .int s13, .rows s14, .int s15, .rows s16, .rows s17, .bool s18, .rows s19, .bool s20, .int s21, .int s22, .int s23, .rows s24, .int s25, .int s26, .int s27, .int e0, .int e1, .int e2, .int e3, .bool e4, .int e5, .int e6, .int e7, .int e8, .int e9, .int e10, .int e11, .bool e12, .int e13, .int e14, .int e15, .int e16, .bool e17, .int e18] = some (lawLs (reviseS (⟨r0, r1, r2, r3, r4, r5, r6, r7, r8, r9, r10, r11, r12, r13⟩ : Rul) (⟨s0, s1, s2, s3, s4, s5, s6, s7, s8, s9, s10, s11, s12, s13, s14, s15, s16, s17, s18, s19, s20, s21, s22, s23, s24, s25, s26, s27⟩ : Inn) e5 e6)) := by
  show t_innings_revise (std (env_innings_revise N) N) (xOf _) = _
  generalize hres : (some (lawLs (reviseS (⟨r0, r1, r2, r3, r4, r5, r6, r7, r8, r9, r10, r11, r12, r13⟩ : Rul) (⟨s0, s1, s2, s3, s4, s5, s6, s7, s8, s9, s10, s11, s12, s13, s14, s15, s16, s17, s18, s19, s20, s21, s22, s23, s24, s25, s26, s27⟩ : Inn) e5 e6)) : Option (List PV)) = RR
  simp only [t_innings_revise, e_innings_revise_innings_Balls, e_innings_revise_innings_Clone, std, xOf, PXb, PXc, PXn, PXm, Nat.reduceAdd, Int.reduceBEq, L_innings_Clone h, L_innings_Balls]
  subst hres; simp only [reviseS]
  cases (r3 == 0 || e5 == 0 && e6 == 0) <;> try rfl
  cases (iLt 0 e5 && (s1 == 0 || iLe e5 s3)) <;> try rfl
  cases iLt 0 e6 <;> cases iLt r3 e6 <;> try rfl
  simp only [PXb, PXc, PXn, PXm, Nat.reduceAdd, Int.reduceBEq]
  cases iLt (IntKind.i64.wrap (e6 * r4)) (ballsR r4 s10 s11) <;> rfl
end Go.Px
end

section
namespace Go.Px
set_option linter.unusedVariables false
set_option linter.unusedSimpArgs false
set_option maxRecDepth 100000

def performS (r : Rul) (s : Inn) (e : Ev) : Inn × Int :=
  cond (e.kind == 2) (openS s e.player e.other) (cond (e.kind == 3) (takeS r s e.player) (cond (e.kind == 4) (ballS r s e.ball)
    (cond (e.kind == 5) (cond e.yes (timeOutS s e.player) (enterS s e.player)) (cond (e.kind == 6) (retireS s e.player e.yes) (cond (e.kind == 7) (outsideS s e.runs)
      (cond (e.kind == 8) (keeperS s e.player) (cond (e.kind == 9) (substS s e.player e.yes) (cond (e.kind == 10) (newBallS r s) (cond (e.kind == 11) (declareS r s e.side)
        (cond (e.kind == 13) (penaltyS s e.side e.runs) (cond (e.kind == 14) (reviewS r s e.side e.yes) (reviseS r s e.runs e.overs))))))))))))
theorem ev_kind {e : Ev} (h : (evS e == 0) = true) : (iLt e.kind 1 || iLt 16 e.kind) = false := by
  unfold evS at h
  cases hk : (iLt e.kind 1 || iLt 16 e.kind) with
  | false => rfl
  | true => rw [hk] at h; cases h
theorem ev_side {e : Ev} (h : (evS e == 0) = true) (hk : e.kind = 14) : e.side = 1 ∨ e.side = 2 := by
  have h0 := ev_kind h
  unfold evS at h
  rw [h0] at h
  cases h1 : err1 e with
  | true => rw [h1] at h; cases h
  | false =>
    cases h2 : err2 e with
    | true => rw [h1, h2] at h; cases h
    | false =>
      unfold err2 at h2
      rw [Bool.or_eq_false_iff] at h2
      have h3 := h2.1
      rw [hk, show uS 14 = true from rfl, Bool.and_true] at h3
      simp only [btw, iLe, Bool.not_eq_false', Bool.and_eq_true, decide_eq_true_eq] at h3
      omega
set_option maxHeartbeats 4000000 in
theorem L_innings_perform {N : Nat} {r1 r2 r3 r4 r5 r6 r7 r9 r10 r11 r12 : Int} {r8 : Bool} {r0 : ByteArray} {r13 : Rows} {s0 s1 s2 s3 s4 s5 s6 s7 s8 s9 s10 s11 s12 s13 s15 s21 s22 s23 s25 s26 s27 : Int} {s18 s20 : Bool} {s14 s16 s17 s19 s24 : Rows} {e0 e1 e2 e3 e5 e6 e7 e8 e9 e10 e11 e13 e14 e15 e16 e18 : Int} {e4 e12 e17 : Bool} (h : Fit s14 s16 s17 s19 s24) (hw : s17.length + s16.length ≤ 1000000) (hN : 2097152 < N) (hs : r0.size ≤ 1048576) (h13 : r13.length ≤ 1048576) (he : (evS (⟨e0, e1, e2, e3, e4, e5, e6, ⟨e7, e8, e9, e10, e11, e12, e13, e14, e15, e16, e17, e18⟩⟩ : Ev) == 0) = true) : c_innings_perform N [.str r0, .int r1, .int r2, .int r3, .int r4, .int r5, .int r6, .int r7, .bool r8, .int r9, .int r10, .int r11, .int r12, .rows r13, .int s0, .int s1, .int s2, .int s3, .int s4, .int s5, .int s6, .int s7, .int s8, .int s9, .int s10, .int s11, .int s12, .int s13, .rows s14, .int s15, .rows s16, .rows s17, .bool s18, .rows s19, .bool s20, .int s21, .int s22, .int s23, .rows s24, .int s25, .int s26, .int s27, .int e0, .int e1, .int e2, .int e3, .bool e4, .int e5, .int e6, .int e7, .int e8, .int e9, .int e10, .int e11, .bool e12, .int e13, .int e14, .int e15, .int e16, .bool e17, .int e18] = some (lawLs (performS (⟨r0, r1, r2, r3, r4, r5, r6, r7, r8, r9, r10, r11, r12, r13⟩ : Rul) (⟨s0, s1, s2, s3, s4, s5, s6, s7, s8, s9, s10, s11, s12, s13, s14, s15, s16, s17, s18, s19, s20, s21, s22, s23, s24, s25, s26, s27⟩ : Inn) (⟨e0, e1, e2, e3, e4, e5, e6, ⟨e7, e8, e9, e10, e11, e12, e13, e14, e15, e16, e17, e18⟩⟩ : Ev))) := by
  show t_innings_perform (std (env_innings_perform N) N) (xOf _) = _
  generalize hres : (some (lawLs (performS (⟨r0, r1, r2, r3, r4, r5, r6, r7, r8, r9, r10, r11, r12, r13⟩ : Rul) (⟨s0, s1, s2, s3, s4, s5, s6, s7, s8, s9, s10, s11, s12, s13, s14, s15, s16, s17, s18, s19, s20, s21, s22, s23, s24, s25, s26, s27⟩ : Inn) (⟨e0, e1, e2, e3, e4, e5, e6, ⟨e7, e8, e9, e10, e11, e12, e13, e14, e15, e16, e17, e18⟩⟩ : Ev))) : Option (List PV)) = RR
  have hsd : e0 = 14 → e1 = 1 ∨ e1 = 2 := ev_side (e := (⟨e0, e1, e2, e3, e4, e5, e6, ⟨e7, e8, e9, e10, e11, e12, e13, e14, e15, e16, e17, e18⟩⟩ : Ev)) he
  rcases kinds16 (ev_kind he) with hk | hk | hk | hk | hk | hk | hk | hk | hk | hk | hk | hk | hk | hk | hk | hk <;> simp only at hk <;> subst hk <;> clear he
  all_goals (first
    | (have hsd := hsd rfl
       simp only [t_innings_perform, e_innings_perform_crease_Open, e_innings_perform_spell_Take, e_innings_perform_innings_ball, e_innings_perform_crease_TimeOut, e_innings_perform_crease_Enter, e_innings_perform_crease_Retire, e_innings_perform_field_Outside, e_innings_perform_field_Keeper, e_innings_perform_field_Substitute, e_innings_perform_spell_NewBall, e_innings_perform_innings_declare, e_innings_perform_innings_penalty, e_innings_perform_innings_review, e_innings_perform_innings_revise, std, xOf, PXb, PXc, PXn, PXm, Nat.reduceAdd, Int.reduceBEq, L_innings_review h hsd]
       subst hres
       rfl)
    | (simp only [t_innings_perform, e_innings_perform_crease_Open, e_innings_perform_spell_Take, e_innings_perform_innings_ball, e_innings_perform_crease_TimeOut, e_innings_perform_crease_Enter, e_innings_perform_crease_Retire, e_innings_perform_field_Outside, e_innings_perform_field_Keeper, e_innings_perform_field_Substitute, e_innings_perform_spell_NewBall, e_innings_perform_innings_declare, e_innings_perform_innings_penalty, e_innings_perform_innings_review, e_innings_perform_innings_revise, std, xOf, PXb, PXc, PXn, PXm, Nat.reduceAdd, Int.reduceBEq, L_crease_Open h hN, L_spell_Take h hN hs, L_innings_ball h hw hN hs h13, L_crease_TimeOut h hN, L_crease_Enter h hN, L_crease_Retire h hN, L_field_Outside h, L_field_Keeper h, L_field_Substitute h, L_spell_NewBall h hN hs, L_innings_declare h, L_innings_penalty h, L_innings_revise h]
       subst hres
       first
       | rfl
       | (cases e4 <;> rfl)))
def actS (r : Rul) (s : Inn) (e : Ev) : Inn × Int := cond (e.kind == 1 || e.kind == 12 || e.kind == 16) (s, 1) (performS r s e)
end Go.Px
end

section
namespace Go.Px
set_option linter.unusedVariables false
set_option linter.unusedSimpArgs false
set_option maxRecDepth 100000

theorem Lens.of {s t : Inn} (h1 : t.batters.length = s.batters.length) (h2 : t.bowled.length = s.bowled.length) (h3 : t.subs.length = s.subs.length) (h4 : t.bowlers = s.bowlers) (h5 : t.before = s.before) : Lens s t := ⟨h1, h2, h3, by rw [h4]; omega, by rw [h5]; omega⟩
theorem L_c {s : Inn} (b : Bool) (x y : Inn × Int) (hx : Lens s x.1) (hy : Lens s y.1) : Lens s (cond b x y).1 := by cases b <;> assumption
theorem open_lens (s : Inn) (p q : Int) : Lens s (openS s p q).1 := by
  unfold openS
  exact L_c _ _ _ (Lens.refl s) (L_c _ _ _ (Lens.refl s) (L_c _ _ _ (Lens.refl s) (Lens.of (by simp [setI_len]) rfl rfl rfl rfl)))
theorem take_lens (r : Rul) (s : Inn) (p : Int) : Lens s (takeS r s p).1 := by
  unfold takeS
  exact P_c (P := fun x : Inn => Lens s x) _ _ _ (Lens.of rfl rfl rfl rfl rfl) (Lens.refl s)
theorem ball_lens (r : Rul) (s : Inn) (d : Del) : Lens s (ballS r s d).1 := by
  unfold ballS
  refine L_c _ _ _ (Lens.refl s) ?_
  have l1 := ran_lens s d
  have w1 := ran_bw s d
  have w2 := ran_bf s d
  simp only [over_add]
  have l2 := over_lens r (ranS s d) (creditS r d).counts
  cases (overS r (ranS s d) (creditS r d).counts).2
  · exact ⟨l2.bt.trans l1.bt, l2.bd.trans l1.bd, l2.sb.trans l1.sb, by have := l2.bw; rw [w1] at this; exact this, by have := l2.bf; rw [w1, w2] at this; exact this⟩
  · exact ⟨l2.bt.trans l1.bt, l2.bd.trans l1.bd, l2.sb.trans l1.sb, by have := l2.bw; rw [w1] at this; exact this, by have := l2.bf; rw [w1, w2] at this; exact this⟩
theorem timeOut_lens (s : Inn) (p : Int) : Lens s (timeOutS s p).1 := by
  unfold timeOutS
  exact L_c _ _ _ (Lens.of (by simp [setI_len]) rfl rfl rfl rfl) (Lens.refl s)
theorem enter_lens (s : Inn) (p : Int) : Lens s (enterS s p).1 := by
  unfold enterS
  exact L_c _ _ _ (Lens.of (by simp [setI_len]) rfl rfl rfl rfl) (Lens.refl s)
theorem retire_lens (s : Inn) (p : Int) (b : Bool) : Lens s (retireS s p b).1 := by
  unfold retireS
  exact L_c _ _ _ (Lens.refl s) (L_c _ _ _ (Lens.refl s) (L_c _ _ _ (Lens.refl s) (L_c _ _ _ (Lens.refl s) (Lens.of (by simp [setI_len]) rfl rfl rfl rfl))))
theorem outside_lens (s : Inn) (n : Int) : Lens s (outsideS s n).1 := by
  unfold outsideS
  exact L_c _ _ _ (Lens.refl s) (Lens.of rfl rfl rfl rfl rfl)
theorem keeper_lens (s : Inn) (n : Int) : Lens s (keeperS s n).1 := by
  unfold keeperS
  exact L_c _ _ _ (Lens.refl s) (L_c _ _ _ (Lens.refl s) (L_c _ _ _ (Lens.refl s) (Lens.of rfl rfl rfl rfl rfl)))
theorem subst_lens (s : Inn) (n : Int) (b : Bool) : Lens s (substS s n b).1 := by
  unfold substS
  exact L_c _ _ _ (Lens.refl s) (L_c _ _ _ (Lens.refl s) (Lens.of rfl rfl (by simp [setB_len]) rfl rfl))
theorem newBall_lens (r : Rul) (s : Inn) : Lens s (newBallS r s).1 := by
  unfold newBallS
  exact L_c _ _ _ (Lens.refl s) (Lens.of rfl rfl rfl rfl rfl)
theorem declare_lens (r : Rul) (s : Inn) (n : Int) : Lens s (declareS r s n).1 := by
  unfold declareS
  exact L_c _ _ _ (Lens.refl s) (L_c _ _ _ (Lens.refl s) (Lens.of rfl rfl rfl rfl rfl))
theorem penalty_lens (s : Inn) (n m : Int) : Lens s (penaltyS s n m).1 := by
  unfold penaltyS
  exact L_c _ _ _ (Lens.refl s) (L_c _ _ _ (Lens.of rfl rfl rfl rfl rfl) (Lens.of rfl rfl rfl rfl rfl))
theorem review_lens (r : Rul) (s : Inn) (n : Int) (b : Bool) : Lens s (reviewS r s n b).1 := by
  unfold reviewS
  exact L_c _ _ _ (Lens.refl s) (L_c _ _ _ (Lens.of rfl rfl rfl rfl rfl) (Lens.refl s))
theorem revise_lens (r : Rul) (s : Inn) (n m : Int) : Lens s (reviseS r s n m).1 := by
  unfold reviseS
  exact L_c _ _ _ (Lens.refl s) (L_c _ _ _ (Lens.refl s) (L_c _ _ _ (Lens.refl s) (Lens.of rfl rfl rfl rfl rfl)))
theorem perform_lens (r : Rul) (s : Inn) (e : Ev) : Lens s (performS r s e).1 := by
  unfold performS
  exact L_c _ _ _ (open_lens ..) (L_c _ _ _ (take_lens ..) (L_c _ _ _ (ball_lens ..) (L_c _ _ _ (L_c _ _ _ (timeOut_lens ..) (enter_lens ..)) (L_c _ _ _ (retire_lens ..) (L_c _ _ _ (outside_lens ..)
    (L_c _ _ _ (keeper_lens ..) (L_c _ _ _ (subst_lens ..) (L_c _ _ _ (newBall_lens ..) (L_c _ _ _ (declare_lens ..) (L_c _ _ _ (penalty_lens ..) (L_c _ _ _ (review_lens ..) (revise_lens ..))))))))))))

def validS (r : Rul) (s : Inn) : Bool := validR r.name r.side r.innings r.overs r.balls r.quota r.wide r.noball r.newball r.followon r.reviews r.outside r.power s.batters s.bowlers s.before s.bowled s.subs s.side s.target s.overs s.runs s.wickets s.wides s.noballs s.byes s.legbyes s.pens s.complete s.inover s.striker s.other s.bowler s.ballage s.keeper s.outside s.rev1 s.rev2 s.ending
def endS (r : Rul) (s : Inn) : Int := endR (validS r s) s.batters s.striker s.other s.target s.overs s.runs s.complete
theorem L_innings_Valid {N : Nat} {r1 r2 r3 r4 r5 r6 r7 r9 r10 r11 r12 : Int} {r8 : Bool} {r0 : ByteArray} {r13 : Rows} {s0 s1 s2 s3 s4 s5 s6 s7 s8 s9 s10 s11 s12 s13 s15 s21 s22 s23 s25 s26 s27 : Int} {s18 s20 : Bool} {s14 s16 s17 s19 s24 : Rows} (h : Fit s14 s16 s17 s19 s24) (hN : 2097152 < N) (hs : r0.size ≤ 1048576) : c_innings_Valid N [.str r0, .int r1, .int r2, .int r3, .int r4, .int r5, .int r6, .int r7, .bool r8, .int r9, .int r10, .int r11, .int r12, .rows r13, .int s0, .int s1, .int s2, .int s3, .int s4, .int s5, .int s6, .int s7, .int s8, .int s9, .int s10, .int s11, .int s12, .int s13, .rows s14, .int s15, .rows s16, .rows s17, .bool s18, .rows s19, .bool s20, .int s21, .int s22, .int s23, .rows s24, .int s25, .int s26, .int s27] = some [.bool (validS (⟨r0, r1, r2, r3, r4, r5, r6, r7, r8, r9, r10, r11, r12, r13⟩ : Rul) (⟨s0, s1, s2, s3, s4, s5, s6, s7, s8, s9, s10, s11, s12, s13, s14, s15, s16, s17, s18, s19, s20, s21, s22, s23, s24, s25, s26, s27⟩ : Inn))] := by
  exact LL_innings_Valid N _ _ _ _ _ _ _ _ _ _ _ _ _ _ _ _ _ _ _ _ _ _ _ _ _ _ _ _ _ _ _ _ _ _ _ _ _ _ _ _ _ _ hN hs h.bt h.bw h.bf h.bd
theorem L_innings_Ending {N : Nat} {r1 r2 r3 r4 r5 r6 r7 r9 r10 r11 r12 : Int} {r8 : Bool} {r0 : ByteArray} {r13 : Rows} {s0 s1 s2 s3 s4 s5 s6 s7 s8 s9 s10 s11 s12 s13 s15 s21 s22 s23 s25 s26 s27 : Int} {s18 s20 : Bool} {s14 s16 s17 s19 s24 : Rows} (h : Fit s14 s16 s17 s19 s24) (hN : 2097152 < N) (hs : r0.size ≤ 1048576) : c_innings_Ending N [.str r0, .int r1, .int r2, .int r3, .int r4, .int r5, .int r6, .int r7, .bool r8, .int r9, .int r10, .int r11, .int r12, .rows r13, .int s0, .int s1, .int s2, .int s3, .int s4, .int s5, .int s6, .int s7, .int s8, .int s9, .int s10, .int s11, .int s12, .int s13, .rows s14, .int s15, .rows s16, .rows s17, .bool s18, .rows s19, .bool s20, .int s21, .int s22, .int s23, .rows s24, .int s25, .int s26, .int s27] = some [.int (endS (⟨r0, r1, r2, r3, r4, r5, r6, r7, r8, r9, r10, r11, r12, r13⟩ : Rul) (⟨s0, s1, s2, s3, s4, s5, s6, s7, s8, s9, s10, s11, s12, s13, s14, s15, s16, s17, s18, s19, s20, s21, s22, s23, s24, s25, s26, s27⟩ : Inn))] := by
  exact LL_innings_Ending N _ _ _ _ _ _ _ _ _ _ _ _ _ _ _ _ _ _ _ _ _ _ _ _ _ _ _ _ _ _ _ _ _ _ _ _ _ _ _ _ _ _ hN hs h.bt h.bw h.bf h.bd
def freshS (t : Inn) (b : Bool) : Inn := ⟨t.side, t.target, t.overs, t.runs, t.wickets, t.wides, t.noballs, t.byes, t.legbyes, t.pens, t.complete, t.inover, t.striker, t.other, t.batters, t.bowler, t.bowlers, t.before, b, t.bowled, t.freehit, t.ballage, t.keeper, t.outside, t.subs, t.rev1, t.rev2, t.ending⟩
def finishS (r : Rul) (t : Inn) (b : Bool) : Inn := { freshS t b with ending := cond (t.ending == 0) (endS r (freshS t b)) t.ending }
def noWay (s : Inn) (e : Ev) : Bool := e.kind == 1 || e.kind == 12 || e.kind == 16 || (!begunR s.batters && !(e.kind == 2))
def stepS (r : Rul) (s : Inn) (e : Ev) : Inn × Int :=
  cond (!validS r s || !(evS e == 0)) (s, 1) (cond (!(s.ending == 0)) (s, 26) (cond (noWay s e) (s, 1)
    (cond (!((performS r s e).2 == 0)) (s, (performS r s e).2) (finishS r (performS r s e).1 (e.kind == 4), 0))))
set_option maxHeartbeats 4000000 in
theorem L_innings_Step {N : Nat} {r1 r2 r3 r4 r5 r6 r7 r9 r10 r11 r12 : Int} {r8 : Bool} {r0 : ByteArray} {r13 : Rows} {s0 s1 s2 s3 s4 s5 s6 s7 s8 s9 s10 s11 s12 s13 s15 s21 s22 s23 s25 s26 s27 : Int} {s18 s20 : Bool} {s14 s16 s17 s19 s24 : Rows} {e0 e1 e2 e3 e5 e6 e7 e8 e9 e10 e11 e13 e14 e15 e16 e18 : Int} {e4 e12 e17 : Bool} (h : Fit s14 s16 s17 s19 s24) (hw : s17.length + s16.length ≤ 1000000) (hN : 2097152 < N) (hs : r0.size ≤ 1048576) (h13 : r13.length ≤ 1048576) : c_innings_Step N [.str r0, .int r1, .int r2, .int r3, .int r4, .int r5, .int r6, .int r7, .bool r8, .int r9, .int r10, .int r11, .int r12, .rows r13, .int s0, .int s1, .int s2, .int s3, .int s4, .int s5, .int s6, .int s7, .int s8, .int s9, .int s10, .int s11, .int s12, .int s13, .rows s14, .int s15, .rows s16, .rows s17, .bool s18, .rows s19, .bool s20, .int s21, .int s22, .int s23, .rows s24, .int s25, .int s26, .int s27, .int e0, .int e1, .int e2, .int e3, .bool e4, .int e5, .int e6, .int e7, .int e8, .int e9, .int e10, .int e11, .bool e12, .int e13, .int e14, .int e15, .int e16, .bool e17, .int e18] = some (lawLs (stepS (⟨r0, r1, r2, r3, r4, r5, r6, r7, r8, r9, r10, r11, r12, r13⟩ : Rul) (⟨s0, s1, s2, s3, s4, s5, s6, s7, s8, s9, s10, s11, s12, s13, s14, s15, s16, s17, s18, s19, s20, s21, s22, s23, s24, s25, s26, s27⟩ : Inn) (⟨e0, e1, e2, e3, e4, e5, e6, ⟨e7, e8, e9, e10, e11, e12, e13, e14, e15, e16, e17, e18⟩⟩ : Ev))) := by
  show t_innings_Step (std (env_innings_Step N) N) (xOf _) = _
  generalize hres : (some (lawLs (stepS (⟨r0, r1, r2, r3, r4, r5, r6, r7, r8, r9, r10, r11, r12, r13⟩ : Rul) (⟨s0, s1, s2, s3, s4, s5, s6, s7, s8, s9, s10, s11, s12, s13, s14, s15, s16, s17, s18, s19, s20, s21, s22, s23, s24, s25, s26, s27⟩ : Inn) (⟨e0, e1, e2, e3, e4, e5, e6, ⟨e7, e8, e9, e10, e11, e12, e13, e14, e15, e16, e17, e18⟩⟩ : Ev))) : Option (List PV)) = RR
  have l1 := perform_lens (⟨r0, r1, r2, r3, r4, r5, r6, r7, r8, r9, r10, r11, r12, r13⟩ : Rul) (⟨s0, s1, s2, s3, s4, s5, s6, s7, s8, s9, s10, s11, s12, s13, s14, s15, s16, s17, s18, s19, s20, s21, s22, s23, s24, s25, s26, s27⟩ : Inn) (⟨e0, e1, e2, e3, e4, e5, e6, ⟨e7, e8, e9, e10, e11, e12, e13, e14, e15, e16, e17, e18⟩⟩ : Ev)
  have f1 := fit_of l1 h (by simp only; omega)
  simp only [t_innings_Step, e_innings_Step_innings_Valid, e_innings_Step_innings_Ending, e_innings_Step_innings_Clone, e_innings_Step_event_Check, e_innings_Step_innings_begun, e_innings_Step_innings_perform, std, xOf, PXb, L_innings_Valid h hN hs, L_event_Check hN, L_innings_Clone h, L_innings_begun h.bt hN]
  subst hres; simp only [stepS, noWay]
  cases validS (⟨r0, r1, r2, r3, r4, r5, r6, r7, r8, r9, r10, r11, r12, r13⟩ : Rul) (⟨s0, s1, s2, s3, s4, s5, s6, s7, s8, s9, s10, s11, s12, s13, s14, s15, s16, s17, s18, s19, s20, s21, s22, s23, s24, s25, s26, s27⟩ : Inn)
  · rfl
  cases he : evS (⟨e0, e1, e2, e3, e4, e5, e6, ⟨e7, e8, e9, e10, e11, e12, e13, e14, e15, e16, e17, e18⟩⟩ : Ev) == 0
  · simp only [PXb, PXc, PXn, PXm, Nat.reduceAdd, Int.reduceBEq, he]
  simp only [PXb, PXc, PXn, PXm, Nat.reduceAdd, Int.reduceBEq, he]
  cases s27 == 0 <;> try rfl
  cases (e0 == 1 || e0 == 12 || e0 == 16) <;> cases begunR s14 <;> cases e0 == 2 <;> try rfl
  all_goals (simp only [PXb, PXc, PXn, PXm, Nat.reduceAdd, Int.reduceBEq, e_innings_Step_innings_perform, e_innings_Step_innings_Ending, L_innings_perform h hw hN hs h13 he, L_innings_Ending f1 hN hs])
  all_goals (unfold finishS freshS; cases (performS (⟨r0, r1, r2, r3, r4, r5, r6, r7, r8, r9, r10, r11, r12, r13⟩ : Rul) (⟨s0, s1, s2, s3, s4, s5, s6, s7, s8, s9, s10, s11, s12, s13, s14, s15, s16, s17, s18, s19, s20, s21, s22, s23, s24, s25, s26, s27⟩ : Inn) (⟨e0, e1, e2, e3, e4, e5, e6, ⟨e7, e8, e9, e10, e11, e12, e13, e14, e15, e16, e17, e18⟩⟩ : Ev)).2 == 0 <;> cases (performS (⟨r0, r1, r2, r3, r4, r5, r6, r7, r8, r9, r10, r11, r12, r13⟩ : Rul) (⟨s0, s1, s2, s3, s4, s5, s6, s7, s8, s9, s10, s11, s12, s13, s14, s15, s16, s17, s18, s19, s20, s21, s22, s23, s24, s25, s26, s27⟩ : Inn) (⟨e0, e1, e2, e3, e4, e5, e6, ⟨e7, e8, e9, e10, e11, e12, e13, e14, e15, e16, e17, e18⟩⟩ : Ev)).1.ending == 0 <;> rfl)
end Go.Px
end

section
namespace Go.Px
set_option linter.unusedVariables false
set_option linter.unusedSimpArgs false
set_option maxRecDepth 100000

def eqL (L M : Rows) : Bool := ((L.length : Int) == (M.length : Int)) && !anyR (fun i => !(atI L i 0 == atI M i 0)) L.length 0
def eqB (L M : Rows) : Bool := ((L.length : Int) == (M.length : Int)) && !anyR (fun i => !(atB L i 0 == atB M i 0)) L.length 0
def eqN (s t : Inn) : Bool := s.side == t.side && s.target == t.target && s.overs == t.overs && s.runs == t.runs && s.wickets == t.wickets && (s.wides == t.wides && (s.noballs == t.noballs && (s.byes == t.byes && (s.legbyes == t.legbyes && s.pens == t.pens)))) && s.complete == t.complete && s.inover == t.inover && s.striker == t.striker && s.other == t.other && s.bowler == t.bowler && s.fresh == t.fresh && s.freehit == t.freehit && s.ballage == t.ballage && s.keeper == t.keeper && s.outside == t.outside && s.rev1 == t.rev1 && s.rev2 == t.rev2 && s.ending == t.ending
def sameS (s t : Inn) : Bool := eqL s.batters t.batters && (eqB s.subs t.subs && (eqL s.bowlers t.bowlers && (eqL s.before t.before && (eqL s.bowled t.bowled && eqN s t))))
theorem eqL_refl (L : Rows) : eqL L L = true := by
  unfold eqL
  rw [beq_self_eq_true, anyR_false.2 (fun j _ _ => by rw [beq_self_eq_true]; rfl)]
  rfl
theorem eqB_refl (L : Rows) : eqB L L = true := by
  unfold eqB
  rw [beq_self_eq_true, anyR_false.2 (fun j _ _ => by rw [beq_self_eq_true]; rfl)]
  rfl
theorem same_refl (s : Inn) : sameS s s = true := by
  unfold sameS eqN
  simp only [eqL_refl, eqB_refl, beq_self_eq_true, Bool.and_self]
theorem lt_same {i len : Nat} {m : Nat} (h : ((len : Int) == (m : Int)) = true) (hi : i < len) : iIn (i : Int) (m : Int) = true := by
  have := beq_iff_eq.1 h
  exact in_range (by omega)
theorem L_r14_ints {N : Nat} {L : Rows} {M : Rows} (hN : 2097152 < N) (hl : L.length ≤ 1048576) : c_r14_ints N [.rows L, .rows M] = some [.bool (eqL L M)] := by
  show t_r14_ints (std (env_r14_ints N) N) (xOf _) = _
  simp only [t_r14_ints, std, xOf, PXb, PXc, PXn, bind_c]
  unfold eqL
  cases hm : (L.length : Int) == (M.length : Int) with
  | false => rfl
  | true =>
    simp only [PXb, PXc, PXn, bind_c]
    refine bind_loop (iter_any (len := L.length) (fun i => !(atI L i 0 == atI M i 0)) [.bool false] ?_ ?_ N (by omega)) ?_
    · intro self
      simp only [PXb, PXc, PXn, bind_c, ge_len]
    · intro i self hi
      simp only [PXb, PXc, PXn, bind_c, wrap_nat (show i ≤ 1099511627776 by omega), lt_len hi, in_range hi, lt_same hm hi, atI_def]
    · cases anyR (fun i => !(atI L i 0 == atI M i 0)) L.length 0 <;> rfl
set_option maxHeartbeats 4000000 in
theorem L_r14_Same {N : Nat} {s0 s1 s2 s3 s4 s5 s6 s7 s8 s9 s10 s11 s12 s13 s15 s21 s22 s23 s25 s26 s27 : Int} {s18 s20 : Bool} {s14 s16 s17 s19 s24 : Rows} {t0 t1 t2 t3 t4 t5 t6 t7 t8 t9 t10 t11 t12 t13 t15 t21 t22 t23 t25 t26 t27 : Int} {t18 t20 : Bool} {t14 t16 t17 t19 t24 : Rows} (h : Fit s14 s16 s17 s19 s24) (hN : 2097152 < N) : c_r14_Same N [.int s0, .int s1, .int s2, .int s3, .int s4, .int s5, .int s6, .int s7, .int s8, .int s9, .int s10, .int s11, .int s12, .int s13, .rows s14, .int s15, .rows s16, .rows s17, .bool s18, .rows s19, .bool s20, .int s21, .int s22, .int s23, .rows s24, .int s25, .int s26, .int s27, .int t0, .int t1, .int t2, .int t3, .int t4, .int t5, .int t6, .int t7, .int t8, .int t9, .int t10, .int t11, .int t12, .int t13, .rows t14, .int t15, .rows t16, .rows t17, .bool t18, .rows t19, .bool t20, .int t21, .int t22, .int t23, .rows t24, .int t25, .int t26, .int t27] = some [.bool (sameS (⟨s0, s1, s2, s3, s4, s5, s6, s7, s8, s9, s10, s11, s12, s13, s14, s15, s16, s17, s18, s19, s20, s21, s22, s23, s24, s25, s26, s27⟩ : Inn) (⟨t0, t1, t2, t3, t4, t5, t6, t7, t8, t9, t10, t11, t12, t13, t14, t15, t16, t17, t18, t19, t20, t21, t22, t23, t24, t25, t26, t27⟩ : Inn))] := by
  show t_r14_Same (std (env_r14_Same N) N) (xOf _) = _
  generalize hres : (some [.bool (sameS (⟨s0, s1, s2, s3, s4, s5, s6, s7, s8, s9, s10, s11, s12, s13, s14, s15, s16, s17, s18, s19, s20, s21, s22, s23, s24, s25, s26, s27⟩ : Inn) (⟨t0, t1, t2, t3, t4, t5, t6, t7, t8, t9, t10, t11, t12, t13, t14, t15, t16, t17, t18, t19, t20, t21, t22, t23, t24, t25, t26, t27⟩ : Inn))] : Option (List PV)) = RR
  simp only [t_r14_Same, e_r14_Same_r14_ints, std, xOf, PXb, L_r14_ints hN h.bw', L_r14_ints hN h.bf, L_r14_ints hN h.bd]
  subst hres; simp only [sameS, eqN]
  rw [show eqL s14 t14 = (((s14.length : Int) == (t14.length : Int)) && !anyR (fun i => !(atI s14 i 0 == atI t14 i 0)) s14.length 0) from rfl,
    show eqB s24 t24 = (((s24.length : Int) == (t24.length : Int)) && !anyR (fun i => !(atB s24 i 0 == atB t24 i 0)) s24.length 0) from rfl]
  cases hm : (s14.length : Int) == (t14.length : Int) with
  | false => rfl
  | true =>
    cases hk : (s24.length : Int) == (t24.length : Int) with
    | false => simp only [PXb, PXc, PXn, PXm, Nat.reduceAdd, Int.reduceBEq]
    | true =>
      simp only [PXb, PXc, PXn, PXm, Nat.reduceAdd, Int.reduceBEq]
      cases eqL s16 t16 <;> try (simp only [PXb, PXc, PXn, PXm, Nat.reduceAdd, Int.reduceBEq]; done)
      cases eqL s17 t17 <;> try (simp only [PXb, PXc, PXn, PXm, Nat.reduceAdd, Int.reduceBEq]; done)
      cases eqL s19 t19 <;> try (simp only [PXb, PXc, PXn, PXm, Nat.reduceAdd, Int.reduceBEq]; done)
      simp only [PXb]
      refine bind_loop (iter_any (len := s14.length) (fun i => !(atI s14 i 0 == atI t14 i 0)) [.bool false] ?_ ?_ N (by have := h.bt; omega)) ?_
      · intro self
        simp only [PXb, PXc, PXn, bind_c, ge_len]
      · intro i self hi
        have hb := h.bt
        simp only [PXb, PXc, PXn, bind_c, wrap_nat (show i ≤ 1099511627776 by omega), lt_len hi, in_range hi, lt_same hm hi, atI_def]
      · cases anyR (fun i => !(atI s14 i 0 == atI t14 i 0)) s14.length 0 with
        | true => rfl
        | false =>
          simp only [PXb, PXc, PXn, PXm, Nat.reduceAdd, Int.reduceBEq]
          refine bind_loop (iter_any (len := s24.length) (fun i => !(atB s24 i 0 == atB t24 i 0)) [.bool false] ?_ ?_ N (by have := h.sb; omega)) ?_
          · intro self
            simp only [PXb, PXc, PXn, bind_c, ge_len]
          · intro i self hi
            have hb := h.sb
            simp only [PXb, PXc, PXn, bind_c, wrap_nat (show i ≤ 1099511627776 by omega), lt_len hi, in_range hi, lt_same hk hi, atB_def]
          · cases anyR (fun i => !(atB s24 i 0 == atB t24 i 0)) s24.length 0 with
            | true => rfl
            | false => simp only [PXb, PXc, PXn, PXm, Nat.reduceAdd, Int.reduceBEq]
def boundedS (r : Rul) : Rul := { r with name := cutS r.name 20, power := cut r.power 10 }
def fewS (s : Inn) : Inn := { s with batters := cut s.batters 13, bowlers := cut s.bowlers 13, before := cut s.before 13, bowled := cut s.bowled 13, subs := cut s.subs 13 }
theorem L_w14_bounded {N : Nat} {r1 r2 r3 r4 r5 r6 r7 r9 r10 r11 r12 : Int} {r8 : Bool} {r0 : ByteArray} {r13 : Rows}  : c_w14_bounded N [.str r0, .int r1, .int r2, .int r3, .int r4, .int r5, .int r6, .int r7, .bool r8, .int r9, .int r10, .int r11, .int r12, .rows r13] = some (boundedS (⟨r0, r1, r2, r3, r4, r5, r6, r7, r8, r9, r10, r11, r12, r13⟩ : Rul)).ls := by
  exact LL_w14_bounded N _ _ _ _ _ _ _ _ _ _ _ _ _ _
theorem L_w14_Few {N : Nat} {s0 s1 s2 s3 s4 s5 s6 s7 s8 s9 s10 s11 s12 s13 s15 s21 s22 s23 s25 s26 s27 : Int} {s18 s20 : Bool} {s14 s16 s17 s19 s24 : Rows}  : c_w14_Few N [.int s0, .int s1, .int s2, .int s3, .int s4, .int s5, .int s6, .int s7, .int s8, .int s9, .int s10, .int s11, .int s12, .int s13, .rows s14, .int s15, .rows s16, .rows s17, .bool s18, .rows s19, .bool s20, .int s21, .int s22, .int s23, .rows s24, .int s25, .int s26, .int s27] = some (fewS (⟨s0, s1, s2, s3, s4, s5, s6, s7, s8, s9, s10, s11, s12, s13, s14, s15, s16, s17, s18, s19, s20, s21, s22, s23, s24, s25, s26, s27⟩ : Inn)).ls := by
  exact LL_w14_Few N _ _ _ _ _ _ _ _ _ _ _ _ _ _ _ _ _ _ _ _ _ _ _ _ _ _ _ _
theorem cut_le (L : Rows) (c : Nat) : (cut L c).length ≤ c := by
  unfold cut
  rw [List.length_drop, List.length_take]
  cases h : iLt (c : Int) (L.length : Int) with
  | true => simp only [cond_true]; omega
  | false => simp only [iLt, decide_eq_false_iff_not] at h; simp only [cond_false]; omega
theorem few_fit (s : Inn) : (fewS s).Fit := ⟨Nat.le_trans (cut_le _ 13) (by omega), Nat.le_trans (cut_le _ 13) (by omega), Nat.le_trans (cut_le _ 13) (by omega), Nat.le_trans (cut_le _ 13) (by omega), Nat.le_trans (cut_le _ 13) (by omega)⟩
theorem few_hw (s : Inn) : (fewS s).before.length + (fewS s).bowlers.length ≤ 1000000 := by
  have h1 : (cut s.before 13).length ≤ 13 := cut_le s.before 13
  have h2 : (cut s.bowlers 13).length ≤ 13 := cut_le s.bowlers 13
  show (cut s.before 13).length + (cut s.bowlers 13).length ≤ 1000000
  omega
theorem bounded_name (r : Rul) (h : r.name.size ≤ 1048576) : (boundedS r).name.size ≤ 1048576 := Nat.le_trans (cut_size _ _) h
theorem bounded_power (r : Rul) : (boundedS r).power.length ≤ 1048576 := Nat.le_trans (cut_le _ 10) (by omega)
theorem finish_lens {s t : Inn} (r : Rul) (b : Bool) (h : Lens s t) : Lens s (finishS r t b) := ⟨h.bt, h.bd, h.sb, h.bw, h.bf⟩
theorem step_lens (r : Rul) (s : Inn) (e : Ev) : Lens s (stepS r s e).1 := by
  unfold stepS
  exact L_c _ _ _ (Lens.refl s) (L_c _ _ _ (Lens.refl s) (L_c _ _ _ (Lens.refl s) (L_c _ _ _ (Lens.refl s) (finish_lens r _ (perform_lens r s e)))))
end Go.Px
end

section
namespace Go.Px
set_option linter.unusedVariables false
set_option linter.unusedSimpArgs false
set_option maxRecDepth 100000

theorem step_ok {r : Rul} {s : Inn} {e : Ev} (h : ((stepS r s e).2 == 0) = true) :
    validS r s = true ∧ (evS e == 0) = true ∧ (s.ending == 0) = true ∧ noWay s e = false ∧ ((performS r s e).2 == 0) = true ∧ (stepS r s e).1 = finishS r (performS r s e).1 (e.kind == 4) := by
  unfold stepS at h ⊢
  cases hv : validS r s with
  | false => rw [hv] at h; cases h
  | true =>
    cases he : evS e == 0 with
    | false => rw [hv, he] at h; cases h
    | true =>
      cases hn : s.ending == 0 with
      | false => rw [hv, he, hn] at h; cases h
      | true =>
        cases hw : noWay s e with
        | true => rw [hv, he, hn, hw] at h; cases h
        | false =>
          cases hp : (performS r s e).2 == 0 with
          | false => rw [hv, he, hn, hw, hp] at h; exact absurd (hp ▸ h) (by decide)
          | true => exact ⟨rfl, rfl, rfl, rfl, rfl, rfl⟩
/-- An innings that has ended takes no event. -/
theorem step_ended {r : Rul} {s : Inn} {e : Ev} (h : (s.ending == 0) = false) : ((stepS r s e).2 == 26 || (stepS r s e).2 == 1) = true := by
  unfold stepS
  rw [h]
  cases (!validS r s || !(evS e == 0)) <;> rfl
/-- One that goes on has not come to an end. -/
theorem step_on {r : Rul} {s : Inn} {e : Ev} (h : ((stepS r s e).2 == 0) = true) (hn : ((stepS r s e).1.ending == 0) = true) : endS r (stepS r s e).1 = 0 := by
  have h1 := (step_ok h).2.2.2.2.2
  rw [h1] at hn ⊢
  unfold finishS at hn ⊢
  cases ht : (performS r s e).1.ending == 0 with
  | false => rw [ht] at hn; exact absurd (ht ▸ hn) (by decide)
  | true =>
    rw [ht] at hn
    have h2 : endS r (freshS (performS r s e).1 (e.kind == 4)) = 0 := beq_iff_eq.1 hn
    have h3 : { freshS (performS r s e).1 (e.kind == 4) with ending := cond true (endS r (freshS (performS r s e).1 (e.kind == 4))) (performS r s e).1.ending } = freshS (performS r s e).1 (e.kind == 4) := by
      rw [h2]
      unfold freshS
      rw [beq_iff_eq.1 ht]
      rfl
    rw [h3, h2]
theorem end_no {r : Rul} {s : Inn} (hv : validS r s = true) (h : endS r s = 0) : (!iLt 0 s.target || !iLe s.target s.runs) = true ∧ (!iLt 0 s.overs || !iLe s.overs s.complete) = true := by
  rw [← Bool.not_and, ← Bool.not_and]
  unfold endS endR at h
  rw [hv] at h
  cases h1 : (iLt 0 s.target && iLe s.target s.runs) with
  | true => rw [h1] at h; cases h
  | false =>
    rw [h1] at h
    cases h2 : (shortR s.batters s.striker s.other && ((leftR s.batters s.batters.length).length : Int) == 0) with
    | true => rw [h2] at h; cases h
    | false =>
      cases h3 : (iLt 0 s.overs && iLe s.overs s.complete) with
      | true => rw [h2, h3] at h; cases h
      | false => exact ⟨rfl, rfl⟩
theorem lens_hw {s t : Inn} (l : Lens s t) (h : s.before.length ≤ 13 ∧ s.bowlers.length ≤ 13) : t.before.length + t.bowlers.length ≤ 1000000 := by
  have := l.bw
  have := l.bf
  omega
theorem few_le (s : Inn) : (fewS s).before.length ≤ 13 ∧ (fewS s).bowlers.length ≤ 13 := ⟨cut_le s.before 13, cut_le s.bowlers 13⟩
end Go.Px
end

section
namespace Go.Px
set_option linter.unusedVariables false
set_option linter.unusedSimpArgs false
set_option maxRecDepth 100000

theorem btw_iff {x a b : Int} : btw x a b = true ↔ a ≤ x ∧ x ≤ b := by simp [btw, iLe]
theorem btw_mk {x a b : Int} (h : a ≤ x ∧ x ≤ b) : btw x a b = true := btw_iff.2 h
structure RulOk (r : Rul) : Prop where
  side : 2 ≤ r.side ∧ r.side ≤ 11
  innings : 1 ≤ r.innings ∧ r.innings ≤ 2
  overs : 0 ≤ r.overs ∧ r.overs ≤ 90
  balls : 4 ≤ r.balls ∧ r.balls ≤ 8
  quota : 0 ≤ r.quota ∧ r.quota ≤ 90
  wide : 1 ≤ r.wide ∧ r.wide ≤ 5
  noball : 1 ≤ r.noball ∧ r.noball ≤ 5
  newball : 0 ≤ r.newball ∧ r.newball ≤ 200
  followon : 0 ≤ r.followon ∧ r.followon ≤ 1000
  reviews : 0 ≤ r.reviews ∧ r.reviews ≤ 9
  outside : 0 ≤ r.outside ∧ r.outside ≤ 11
theorem code_ok {r : Rul} (h : codeS r = 0) : RulOk r := by
  unfold codeS rulesCode at h
  cases hn : nameOk r.name with
  | false => rw [hn] at h; cases h
  | true =>
    cases hr : rangesOk r.side r.innings r.overs r.balls r.quota r.wide r.noball r.newball r.followon r.reviews r.outside with
    | false => rw [hn, hr] at h; cases h
    | true =>
      unfold rangesOk at hr
      simp only [Bool.and_eq_true, btw_iff] at hr
      obtain ⟨⟨⟨⟨⟨⟨⟨⟨⟨⟨h1, h2⟩, h3⟩, h4⟩, h5⟩, h6⟩, h7⟩, h8⟩, h9⟩, h10⟩, h11⟩ := hr
      exact ⟨h1, h2, h3, h4, h5, h6, h7, h8, h9, h10, h11⟩
/-- A number of a state. -/
def NumOk (x : Int) : Prop := 0 ≤ x ∧ x ≤ 1000000000
structure InnOk (r : Rul) (s : Inn) : Prop where
  code : codeS r = 0
  side : 1 ≤ s.side ∧ s.side ≤ 2
  lb : (s.batters.length : Int) = r.side
  ld : (s.bowled.length : Int) = r.side
  lz : (s.subs.length : Int) = r.side
  ending : s.ending ≤ 5
  st : 0 ≤ s.striker ∧ s.striker ≤ r.side
  ot : 0 ≤ s.other ∧ s.other ≤ r.side
  bat : bat60 s.batters s.striker s.other s.wickets = true
  bow : 0 ≤ s.bowler ∧ s.bowler ≤ r.side
  kee : 0 ≤ s.keeper ∧ s.keeper ≤ r.side
  dw : diffOk s.bowlers r.side = true
  df : diffOk s.before r.side = true
  ov : oversOk r.overs s.overs = true
  io : 0 ≤ s.inover ∧ s.inover ≤ r.balls - 1
  target : NumOk s.target
  runs : NumOk s.runs
  wides : NumOk s.wides
  noballs : NumOk s.noballs
  byes : NumOk s.byes
  legbyes : NumOk s.legbyes
  pens : NumOk s.pens
  complete : NumOk s.complete
  ballage : NumOk s.ballage
  outside : NumOk s.outside
  rev1 : NumOk s.rev1
  rev2 : NumOk s.rev2
  bowled : anyL numBad s.bowled = false
theorem num_iff {x : Int} : numBad x = false ↔ NumOk x := by
  unfold numBad NumOk
  rw [Bool.not_eq_false', btw_iff]
theorem nums_iff (a b c d e f g h i j k l : Int) : anyL numBad (nums a b c d e f g h i j k l) = false ↔ NumOk a ∧ NumOk b ∧ NumOk c ∧ NumOk d ∧ NumOk e ∧ NumOk f ∧ NumOk g ∧ NumOk h ∧ NumOk i ∧ NumOk j ∧ NumOk k ∧ NumOk l := by
  rw [anyL_any]
  simp only [nums, List.any_cons, List.any_nil, Bool.or_false, cell_zero, pvI_int, Bool.or_eq_false_iff, num_iff]
theorem balls_pred {r : Rul} (h : RulOk r) : IntKind.i64.wrap (r.balls - 1) = r.balls - 1 := by
  have := h.balls
  exact wrap64 (by omega) (by omega)
theorem le_five {x : Int} : (!iLt 5 x) = true ↔ x ≤ 5 := by
  rw [Bool.not_eq_true']
  simp only [iLt, decide_eq_false_iff_not]
  omega
theorem valid_iff {r : Rul} {s : Inn} : validS r s = true ↔ InnOk r s := by
  unfold validS validR
  simp only [Bool.and_eq_true, Bool.not_eq_true', nums_iff, btw_iff]
  constructor
  · intro ⟨h1, h2, h3, h4, h5, h6, h7, h8, h9, h10, h11, h12, h13, h14, h15, ⟨n1, n2, n3, n4, n5, n6, n7, n8, n9, n10, n11, n12⟩, h17⟩
    have hc : codeS r = 0 := beq_iff_eq.1 h1
    exact ⟨hc, h2, beq_iff_eq.1 h3, beq_iff_eq.1 h4, beq_iff_eq.1 h5, le_five.1 (by rw [h6]; rfl), h7, h8, h9, h10, h11, h12, h13, h14, by rw [balls_pred (code_ok hc)] at h15; exact h15, n1, n2, n3, n4, n5, n6, n7, n8, n9, n10, n11, n12, h17⟩
  · intro h
    have h6 := le_five.2 h.ending
    rw [Bool.not_eq_true'] at h6
    exact ⟨beq_iff_eq.2 h.code, h.side, beq_iff_eq.2 h.lb, beq_iff_eq.2 h.ld, beq_iff_eq.2 h.lz, h6, h.st, h.ot, h.bat, h.bow, h.kee, h.dw, h.df, h.ov, by rw [balls_pred (code_ok h.code)]; exact h.io,
      ⟨h.target, h.runs, h.wides, h.noballs, h.byes, h.legbyes, h.pens, h.complete, h.ballage, h.outside, h.rev1, h.rev2⟩, h.bowled⟩

/-- Sums that wrap. -/
theorem wrap_eq (n : Int) : IntKind.i64.wrap n = (n + 9223372036854775808) % 18446744073709551616 - 9223372036854775808 := by
  unfold IntKind.wrap
  simp only [IntKind.signed, IntKind.bits]
  simp
  split <;> omega
theorem wrap_wrap (n : Int) : IntKind.i64.wrap (IntKind.i64.wrap n) = IntKind.i64.wrap n := by
  simp only [wrap_eq]; omega
theorem wrap_back (a b : Int) : IntKind.i64.wrap (IntKind.i64.wrap (a + b) - a) = IntKind.i64.wrap b := by
  simp only [wrap_eq]; omega
theorem wrap_sub_self (a : Int) : IntKind.i64.wrap (a - a) = 0 := by rw [Int.sub_self]; rfl
theorem ran_keep (s : Inn) (d : Del) : (ranS s d).runs = s.runs ∧ (ranS s d).wides = s.wides ∧ (ranS s d).noballs = s.noballs ∧ (ranS s d).byes = s.byes ∧ (ranS s d).legbyes = s.legbyes ∧ (ranS s d).pens = s.pens ∧ (ranS s d).complete = s.complete ∧ (ranS s d).inover = s.inover ∧ (ranS s d).bowler = s.bowler ∧ (ranS s d).bowled = s.bowled := by
  unfold ranS
  cases (!(d.runs.tmod 2 == 0) != d.crossed) <;> exact P_c (P := fun x : Inn => x.runs = s.runs ∧ x.wides = s.wides ∧ x.noballs = s.noballs ∧ x.byes = s.byes ∧ x.legbyes = s.legbyes ∧ x.pens = s.pens ∧ x.complete = s.complete ∧ x.inover = s.inover ∧ x.bowler = s.bowler ∧ x.bowled = s.bowled) _ _ _ ⟨rfl, rfl, rfl, rfl, rfl, rfl, rfl, rfl, rfl, rfl⟩
    (P_c (P := fun x : Inn => x.runs = s.runs ∧ x.wides = s.wides ∧ x.noballs = s.noballs ∧ x.byes = s.byes ∧ x.legbyes = s.legbyes ∧ x.pens = s.pens ∧ x.complete = s.complete ∧ x.inover = s.inover ∧ x.bowler = s.bowler ∧ x.bowled = s.bowled) _ _ _ ⟨rfl, rfl, rfl, rfl, rfl, rfl, rfl, rfl, rfl, rfl⟩ ⟨rfl, rfl, rfl, rfl, rfl, rfl, rfl, rfl, rfl, rfl⟩)
/-- What a delivery that is accepted does. -/
def hitS (r : Rul) (s : Inn) (d : Del) : Inn :=
  let o := overS r (ranS s d) (creditS r d).counts
  let t : Inn := cond o.2 (changeS o.1) o.1
  { t with runs := IntKind.i64.wrap (s.runs + totalS (creditS r d)), wides := IntKind.i64.wrap (s.wides + (creditS r d).wides), noballs := IntKind.i64.wrap (s.noballs + (creditS r d).noballs), byes := IntKind.i64.wrap (s.byes + (creditS r d).byes), legbyes := IntKind.i64.wrap (s.legbyes + (creditS r d).legbyes), freehit := cond (d.type == 1) false (cond (d.type == 3 && r.freehit) true o.1.freehit) }
theorem ball_ok {r : Rul} {s : Inn} {d : Del} (h : ((ballS r s d).2 == 0) = true) : (refuseS r s d == 0) = true ∧ (ballS r s d).1 = hitS r s d := by
  unfold ballS at h ⊢
  cases hr : refuseS r s d == 0 with
  | false => rw [hr] at h; exact absurd (hr ▸ h) (by decide)
  | true =>
    refine ⟨rfl, ?_⟩
    obtain ⟨k1, k2, k3, k4, k5, _⟩ := ran_keep s d
    simp only [Bool.not_true, cond_false, over_add, k1, k2, k3, k4, k5, hitS]
    generalize overS r (ranS s d) (creditS r d).counts = o
    obtain ⟨o1, o2⟩ := o
    cases o2 <;> rfl
theorem refuse_ok {r : Rul} {s : Inn} {d : Del} (h : (refuseS r s d == 0) = true) : shortR s.batters s.striker s.other = false ∧ (s.bowler == 0) = false ∧ (readyS r s == 0) = true ∧ (legalS d == 0) = true ∧ (possS d s.freehit == 0) = true ∧ (namedS s d == 0) = true := by
  unfold refuseS at h
  cases h1 : shortR s.batters s.striker s.other with
  | true => rw [h1] at h; cases h
  | false =>
    cases h2 : s.bowler == 0 with
    | true => rw [h1, h2] at h; cases h
    | false =>
      rw [h1, h2] at h
      change (first4 _ _ _ _ == 0) = true at h
      unfold first4 at h
      cases h3 : readyS r s == 0 with
      | false => rw [h3] at h; exact absurd (h3 ▸ h) (by decide)
      | true =>
        cases h4 : legalS d == 0 with
        | false => rw [h3, h4] at h; exact absurd (h4 ▸ h) (by decide)
        | true =>
          cases h5 : possS d s.freehit == 0 with
          | false => rw [h3, h4, h5] at h; exact absurd (h5 ▸ h) (by decide)
          | true =>
            cases h6 : namedS s d == 0 with
            | false => rw [h3, h4, h5, h6] at h; exact absurd (h6 ▸ h) (by decide)
            | true => exact ⟨rfl, rfl, rfl, rfl, rfl, rfl⟩
/-- A dismissal names the striker or the other batter. -/
theorem poss_victim {d : Del} {f : Bool} (h : (possS d f == 0) = true) (hd : (d.how == 0) = false) : (d.victim == 1) = true ∨ (d.victim == 2) = true := by
  unfold possS at h
  rw [hd] at h
  cases h1 : d.victim == 1 with
  | true => exact .inl rfl
  | false =>
    cases h2 : d.victim == 2 with
    | true => exact .inr rfl
    | false =>
      rw [h1, h2] at h
      exfalso
      revert h
      cases (!onS d.how d.type || f && !freeS d.how) <;> cases (!eitherS d.how && (!(d.source == 0) || !(d.runs == 0))) <;> intro h <;> cases h
theorem begun_of {s : Inn} {e : Ev} (h : noWay s e = false) (hk : (e.kind == 2) = false) : begunR s.batters = true := by
  unfold noWay at h
  rw [hk] at h
  cases hb : begunR s.batters with
  | true => rfl
  | false => rw [hb] at h; simp at h
theorem ran_out {s : Inn} {d : Del} (h1 : (s.striker == 0) = false) (h2 : (s.other == 0) = false) (hv : (d.how == 0) = false → (d.victim == 1) = true ∨ (d.victim == 2) = true) :
    (ranS s d).wickets = cond (d.how == 0) s.wickets (inc s.wickets) := by
  unfold ranS
  rw [h1, h2]
  cases hd : d.how == 0 with
  | true => cases (!(d.runs.tmod 2 == 0) != d.crossed) <;> rfl
  | false =>
    rcases hv hd with h | h <;> rw [h] <;> cases (!(d.runs.tmod 2 == 0) != d.crossed) <;> cases d.victim == 1 <;> rfl
theorem over_wk (r : Rul) (s : Inn) (b : Bool) : (overS r s b).1.wickets = s.wickets ∧ (overS r s b).1.pens = s.pens := by
  unfold overS
  exact P_c (P := fun x : Inn × Bool => x.1.wickets = s.wickets ∧ x.1.pens = s.pens) _ _ _ ⟨rfl, rfl⟩ (P_c (P := fun x : Inn × Bool => x.1.wickets = s.wickets ∧ x.1.pens = s.pens) _ _ _ ⟨rfl, rfl⟩ ⟨rfl, rfl⟩)
/-- How many balls there are after one more. -/
theorem over_balls {r : Rul} {s : Inn} {b : Bool} (hr : RulOk r) (hc : codeS r = 0) (hb : inR s.bowler s.bowled.length = true) (hi : 0 ≤ s.inover ∧ s.inover ≤ r.balls - 1) (hn : NumOk s.complete) :
    IntKind.i64.wrap (ballsR r.balls (overS r s b).1.complete (overS r s b).1.inover - ballsR r.balls s.complete s.inover) = cond b 1 0 := by
  have hk : ∃ k : Nat, r.balls = k := ⟨r.balls.toNat, by have := hr.balls; omega⟩
  have hz := hr.balls
  unfold NumOk at hn
  unfold overS ballsR
  rw [hb, hc]
  cases b with
  | false =>
    have h1 : iLt s.inover r.balls = true := by simp only [iLt, decide_eq_true_eq]; omega
    simp only [cond_false, h1, beq_self_eq_true, Bool.not_true, Bool.or_false, cond_true]
    exact wrap_sub_self _
  | true =>
    have h2 : inc s.inover = s.inover + 1 := wrap64 (by omega) (by omega)
    simp only [cond_true, h2, beq_self_eq_true, Bool.not_true, Bool.or_false, cond_false]
    have h3 : inc s.complete = s.complete + 1 := wrap64 (by omega) (by omega)
    have hb5 : r.balls = 4 ∨ r.balls = 5 ∨ r.balls = 6 ∨ r.balls = 7 ∨ r.balls = 8 := by omega
    cases h1 : iLt (s.inover + 1) r.balls with
    | true =>
      simp only [cond_true]
      rcases hb5 with e | e | e | e | e <;> rw [e] at hi ⊢ <;> simp only [wrap_eq] <;> omega
    | false =>
      simp only [iLt, decide_eq_false_iff_not] at h1
      simp only [cond_false, h3]
      rcases hb5 with e | e | e | e | e <;> rw [e] at hi h1 ⊢ <;> simp only [wrap_eq] <;> omega
end Go.Px
end

section
namespace Go.Px
set_option linter.unusedVariables false
set_option linter.unusedSimpArgs false
set_option maxRecDepth 100000

theorem L_w14_ball {N : Nat} {d0 d1 d2 d3 d4 d6 d7 d8 d9 d11 : Int} {d5 d10 : Bool}  : c_w14_ball N [.int d0, .int d1, .int d2, .int d3, .int d4, .bool d5, .int d6, .int d7, .int d8, .int d9, .bool d10, .int d11] = some [.int 4, .int 0, .int 0, .int 0, .bool false, .int 0, .int 0, .int d0, .int d1, .int d2, .int d3, .int d4, .bool d5, .int d6, .int d7, .int d8, .int d9, .bool d10, .int d11] := by
  show t_w14_ball (std (env_w14_ball N) N) (xOf _) = _
  rfl
theorem short_no {L : Rows} {s n : Int} (h : shortR L s n = false) (hb : begunR L = true) : (s == 0) = false ∧ (n == 0) = false := by
  unfold shortR at h
  rw [hb, Bool.true_and, Bool.or_eq_false_iff] at h
  exact h
theorem bowler_in {r : Rul} {s : Inn} (h : InnOk r s) (hb : (s.bowler == 0) = false) : inR s.bowler s.bowled.length = true := by
  have h1 := h.bow
  have h2 := h.ld
  rw [beq_eq_false_iff_ne] at hb
  simp only [inR, iLe, Bool.and_eq_true, decide_eq_true_eq]
  omega
def ballEv (d : Del) : Ev := ⟨4, 0, 0, 0, false, 0, 0, d⟩
/-- What an accepted delivery does to the numbers. -/
theorem step_ball {r : Rul} {s : Inn} {d : Del} (h : ((stepS r s (ballEv d)).2 == 0) = true) :
    IntKind.i64.wrap ((stepS r s (ballEv d)).1.runs - s.runs) = totalS (creditS r d) ∧ IntKind.i64.wrap ((stepS r s (ballEv d)).1.wides - s.wides) = (creditS r d).wides ∧ IntKind.i64.wrap ((stepS r s (ballEv d)).1.noballs - s.noballs) = (creditS r d).noballs ∧
    IntKind.i64.wrap ((stepS r s (ballEv d)).1.byes - s.byes) = (creditS r d).byes ∧ IntKind.i64.wrap ((stepS r s (ballEv d)).1.legbyes - s.legbyes) = (creditS r d).legbyes ∧ (stepS r s (ballEv d)).1.pens = s.pens ∧
    IntKind.i64.wrap (ballsR r.balls (stepS r s (ballEv d)).1.complete (stepS r s (ballEv d)).1.inover - ballsR r.balls s.complete s.inover) = cond (creditS r d).counts 1 0 ∧
    IntKind.i64.wrap ((stepS r s (ballEv d)).1.wickets - s.wickets) = cond (d.how == 0) 0 1 ∧ (stepS r s (ballEv d)).1.fresh = true := by
  obtain ⟨hv, he, hn, hw, hp, hs⟩ := step_ok h
  have hpb : performS r s (ballEv d) = ballS r s d := rfl
  rw [hpb] at hp hs
  obtain ⟨hr, hb⟩ := ball_ok hp
  obtain ⟨q1, q2, q3, q4, q5, q6⟩ := refuse_ok hr
  have ok := valid_iff.1 hv
  have rk := code_ok ok.code
  have hbeg : begunR s.batters = true := begun_of hw rfl
  obtain ⟨z1, z2⟩ := short_no q1 hbeg
  have hin := bowler_in ok q2
  have hout := ran_out (d := d) z1 z2 (fun hd => poss_victim q5 hd)
  obtain ⟨k1, k2, k3, k4, k5, k6, k7, k8, k9, k10⟩ := ran_keep s d
  have hbl := over_balls (b := (creditS r d).counts) (s := ranS s d) rk ok.code (by rw [k9, k10]; exact hin) (by rw [k8]; exact ok.io) (by rw [k7]; exact ok.complete)
  rw [k7, k8] at hbl
  obtain ⟨w1, w2⟩ := over_wk r (ranS s d) (creditS r d).counts
  rw [hs, hb]
  have hc : creditS r d = restS r d := by unfold creditS; rw [q4]; rfl
  have ht : IntKind.i64.wrap (totalS (creditS r d)) = totalS (creditS r d) := wrap_wrap _
  have c1 : IntKind.i64.wrap (creditS r d).wides = (creditS r d).wides := by rw [hc]; unfold restS; simp only; cases d.type == 2 <;> first | rfl | exact wrap_wrap _
  have c2 : IntKind.i64.wrap (creditS r d).noballs = (creditS r d).noballs := by
    have := rk.noball
    rw [hc]; unfold restS; simp only; cases d.type == 3 <;> first | rfl | exact wrap64 (n := r.noball) (by omega) (by omega)
  have c3 : IntKind.i64.wrap (creditS r d).byes = (creditS r d).byes := by rw [hc]; unfold restS; simp only; cases (!(d.type == 2) && d.source == 2) <;> first | rfl | exact wrap_wrap _
  have c4 : IntKind.i64.wrap (creditS r d).legbyes = (creditS r d).legbyes := by rw [hc]; unfold restS; simp only; cases (!(d.type == 2) && d.source == 3) <;> first | rfl | exact wrap_wrap _
  refine ⟨(wrap_back _ _).trans ht, (wrap_back _ _).trans c1, (wrap_back _ _).trans c2, (wrap_back _ _).trans c3, (wrap_back _ _).trans c4, ?_, ?_, ?_, rfl⟩
  · have : (finishS r (hitS r s d) ((ballEv d).kind == 4)).pens = (overS r (ranS s d) (creditS r d).counts).1.pens := by
      show (cond (overS r (ranS s d) (creditS r d).counts).2 (changeS (overS r (ranS s d) (creditS r d).counts).1) (overS r (ranS s d) (creditS r d).counts).1).pens = _
      cases (overS r (ranS s d) (creditS r d).counts).2 <;> rfl
    rw [this, w2, k6]
  · have e1 : (finishS r (hitS r s d) ((ballEv d).kind == 4)).complete = (overS r (ranS s d) (creditS r d).counts).1.complete := by
      show (cond (overS r (ranS s d) (creditS r d).counts).2 (changeS (overS r (ranS s d) (creditS r d).counts).1) (overS r (ranS s d) (creditS r d).counts).1).complete = _
      cases (overS r (ranS s d) (creditS r d).counts).2 <;> rfl
    have e2 : (finishS r (hitS r s d) ((ballEv d).kind == 4)).inover = (overS r (ranS s d) (creditS r d).counts).1.inover := by
      show (cond (overS r (ranS s d) (creditS r d).counts).2 (changeS (overS r (ranS s d) (creditS r d).counts).1) (overS r (ranS s d) (creditS r d).counts).1).inover = _
      cases (overS r (ranS s d) (creditS r d).counts).2 <;> rfl
    rw [e1, e2, hbl]
  · have : (finishS r (hitS r s d) ((ballEv d).kind == 4)).wickets = (overS r (ranS s d) (creditS r d).counts).1.wickets := by
      show (cond (overS r (ranS s d) (creditS r d).counts).2 (changeS (overS r (ranS s d) (creditS r d).counts).1) (overS r (ranS s d) (creditS r d).counts).1).wickets = _
      cases (overS r (ranS s d) (creditS r d).counts).2 <;> rfl
    rw [this, w1, hout]
    unfold inc
    cases d.how == 0 with
    | true => exact wrap_sub_self _
    | false => exact (wrap_back s.wickets 1).trans rfl
end Go.Px
end

section
namespace Go.Px
set_option linter.unusedVariables false
set_option linter.unusedSimpArgs false
set_option maxRecDepth 100000

def zeroI : Inn := ⟨0, 0, 0, 0, 0, 0, 0, 0, 0, 0, 0, 0, 0, 0, [], 0, [], [], false, [], false, 0, 0, 0, [], 0, 0, 0⟩
def openI (n : Nat) (overs side t p : Int) : Inn := ⟨side, t, overs, p, 0, 0, 0, 0, 0, p, 0, 0, 0, 0, List.replicate n [.int 0], 0, [], [], false, List.replicate n [.int 0], false, 0, 0, 0, List.replicate n [.bool false], 0, 0, 0⟩
def beginS (r : Rul) (side t p : Int) : Inn × Int :=
  cond (!(codeS r == 0)) (zeroI, codeS r) (cond (!btw side 1 2 || !btw t 0 1000000 || !btw p 0 1000000) (zeroI, 2) (openI r.side.toNat r.overs side t p, 0))
theorem L_innings_Begin {N : Nat} {r1 r2 r3 r4 r5 r6 r7 r9 r10 r11 r12 : Int} {r8 : Bool} {r0 : ByteArray} {r13 : Rows} {a : Int} {b : Int} {c : Int} (hN : 2097152 < N) (hs : r0.size ≤ 1048576) : c_innings_Begin N [.str r0, .int r1, .int r2, .int r3, .int r4, .int r5, .int r6, .int r7, .bool r8, .int r9, .int r10, .int r11, .int r12, .rows r13, .int a, .int b, .int c] = some (lawLs (beginS (⟨r0, r1, r2, r3, r4, r5, r6, r7, r8, r9, r10, r11, r12, r13⟩ : Rul) a b c)) := by
  show t_innings_Begin (std (env_innings_Begin N) N) (xOf _) = _
  generalize hres : (some (lawLs (beginS (⟨r0, r1, r2, r3, r4, r5, r6, r7, r8, r9, r10, r11, r12, r13⟩ : Rul) a b c)) : Option (List PV)) = RR
  simp only [t_innings_Begin, e_innings_Begin_rules_Check, e_innings_Begin_innings_between, std, xOf, PXb, L_rules_Check hN hs, LL_innings_between]
  subst hres; simp only [beginS]
  cases hc : codeS (⟨r0, r1, r2, r3, r4, r5, r6, r7, r8, r9, r10, r11, r12, r13⟩ : Rul) == 0 with
  | false => rfl
  | true =>
    have rk := (code_ok (beq_iff_eq.1 hc)).side
    obtain ⟨k, hk⟩ : ∃ k : Nat, r1 = k := ⟨r1.toNat, by simp only at rk; omega⟩
    subst hk
    simp only at rk
    have h1 : iSm (k : Int) 1 = true := sm_ok (by omega) (by omega)
    have h8 : iSm (k : Int) 8 = true := sm_ok (by omega) (by omega)
    simp only [PXb, PXc, PXn, PXm, Nat.reduceAdd, Int.reduceBEq, h1, h8]
    cases btw a 1 2 <;> cases btw b 0 1000000 <;> cases btw c 0 1000000 <;> rfl
theorem L_slices_Equal_int {N : Nat} {L : Rows} {M : Rows} (hN : 2097152 < N) (hl : L.length ≤ 1048576) : c_slices_Equal_int N [.rows L, .rows M] = some [.bool (eqL L M)] := by
  show t_slices_Equal_int (std (env_slices_Equal_int N) N) (xOf _) = _
  simp only [t_slices_Equal_int, std, xOf, PXb, PXc, PXn, bind_c]
  unfold eqL
  cases hm : (L.length : Int) == (M.length : Int) with
  | false => rfl
  | true =>
    simp only [PXb, PXc, PXn, bind_c]
    refine bind_loop (iter_any (len := L.length) (fun i => !(atI L i 0 == atI M i 0)) [.bool false] ?_ ?_ N (by omega)) ?_
    · intro self
      simp only [PXb, PXc, PXn, bind_c, ge_len]
    · intro i self hi
      simp only [PXb, PXc, PXn, bind_c, wrap_nat (show i ≤ 1099511627776 by omega), lt_len hi, in_range hi, lt_same hm hi, atI_def]
    · cases anyR (fun i => !(atI L i 0 == atI M i 0)) L.length 0 <;> rfl
theorem L_slices_Equal_Status {N : Nat} {L : Rows} {M : Rows} (hN : 2097152 < N) (hl : L.length ≤ 1048576) : c_slices_Equal_Status N [.rows L, .rows M] = some [.bool (eqL L M)] := by
  show t_slices_Equal_Status (std (env_slices_Equal_Status N) N) (xOf _) = _
  simp only [t_slices_Equal_Status, std, xOf, PXb, PXc, PXn, bind_c]
  unfold eqL
  cases hm : (L.length : Int) == (M.length : Int) with
  | false => rfl
  | true =>
    simp only [PXb, PXc, PXn, bind_c]
    refine bind_loop (iter_any (len := L.length) (fun i => !(atI L i 0 == atI M i 0)) [.bool false] ?_ ?_ N (by omega)) ?_
    · intro self
      simp only [PXb, PXc, PXn, bind_c, ge_len]
    · intro i self hi
      simp only [PXb, PXc, PXn, bind_c, wrap_nat (show i ≤ 1099511627776 by omega), lt_len hi, in_range hi, lt_same hm hi, atI_def]
    · cases anyR (fun i => !(atI L i 0 == atI M i 0)) L.length 0 <;> rfl
theorem L_slices_Equal_bool {N : Nat} {L : Rows} {M : Rows} (hN : 2097152 < N) (hl : L.length ≤ 1048576) : c_slices_Equal_bool N [.rows L, .rows M] = some [.bool (eqB L M)] := by
  show t_slices_Equal_bool (std (env_slices_Equal_bool N) N) (xOf _) = _
  simp only [t_slices_Equal_bool, std, xOf, PXb, PXc, PXn, bind_c]
  unfold eqB
  cases hm : (L.length : Int) == (M.length : Int) with
  | false => rfl
  | true =>
    simp only [PXb, PXc, PXn, bind_c]
    refine bind_loop (iter_any (len := L.length) (fun i => !(atB L i 0 == atB M i 0)) [.bool false] ?_ ?_ N (by omega)) ?_
    · intro self
      simp only [PXb, PXc, PXn, bind_c, ge_len]
    · intro i self hi
      simp only [PXb, PXc, PXn, bind_c, wrap_nat (show i ≤ 1099511627776 by omega), lt_len hi, in_range hi, lt_same hm hi, atB_def]
    · cases anyR (fun i => !(atB L i 0 == atB M i 0)) L.length 0 <;> rfl
theorem L_innings_Same_1 {N : Nat} {s0 s1 s2 s3 s4 s5 s6 s7 s8 s9 s10 s11 s12 s13 s15 s21 s22 s23 s25 s26 s27 : Int} {s18 s20 : Bool} {s14 s16 s17 s19 s24 : Rows}  : c_innings_Same_1 N [.int s0, .int s1, .int s2, .int s3, .int s4, .int s5, .int s6, .int s7, .int s8, .int s9, .int s10, .int s11, .int s12, .int s13, .rows s14, .int s15, .rows s16, .rows s17, .bool s18, .rows s19, .bool s20, .int s21, .int s22, .int s23, .rows s24, .int s25, .int s26, .int s27] = some [.int s0, .int s1, .int s2, .int s3, .int s4, .int s10, .int s11, .int s12, .int s13, .int s15, .int s21, .int s22, .int s23, .int s25, .int s26] := by
  show t_innings_Same_1 (std (env_innings_Same_1 N) N) (xOf _) = _
  simp only [t_innings_Same_1, std, xOf, PXb, PXc, PXn, PXm, Nat.reduceAdd, Int.reduceBEq]
theorem L_innings_Same {N : Nat} {s0 s1 s2 s3 s4 s5 s6 s7 s8 s9 s10 s11 s12 s13 s15 s21 s22 s23 s25 s26 s27 : Int} {s18 s20 : Bool} {s14 s16 s17 s19 s24 : Rows} {t0 t1 t2 t3 t4 t5 t6 t7 t8 t9 t10 t11 t12 t13 t15 t21 t22 t23 t25 t26 t27 : Int} {t18 t20 : Bool} {t14 t16 t17 t19 t24 : Rows} (h : Fit s14 s16 s17 s19 s24) (hN : 2097152 < N) : c_innings_Same N [.int s0, .int s1, .int s2, .int s3, .int s4, .int s5, .int s6, .int s7, .int s8, .int s9, .int s10, .int s11, .int s12, .int s13, .rows s14, .int s15, .rows s16, .rows s17, .bool s18, .rows s19, .bool s20, .int s21, .int s22, .int s23, .rows s24, .int s25, .int s26, .int s27, .int t0, .int t1, .int t2, .int t3, .int t4, .int t5, .int t6, .int t7, .int t8, .int t9, .int t10, .int t11, .int t12, .int t13, .rows t14, .int t15, .rows t16, .rows t17, .bool t18, .rows t19, .bool t20, .int t21, .int t22, .int t23, .rows t24, .int t25, .int t26, .int t27] = some [.bool (sameS (⟨s0, s1, s2, s3, s4, s5, s6, s7, s8, s9, s10, s11, s12, s13, s14, s15, s16, s17, s18, s19, s20, s21, s22, s23, s24, s25, s26, s27⟩ : Inn) (⟨t0, t1, t2, t3, t4, t5, t6, t7, t8, t9, t10, t11, t12, t13, t14, t15, t16, t17, t18, t19, t20, t21, t22, t23, t24, t25, t26, t27⟩ : Inn))] := by
  show t_innings_Same (std (env_innings_Same N) N) (xOf _) = _
  generalize hres : (some [.bool (sameS (⟨s0, s1, s2, s3, s4, s5, s6, s7, s8, s9, s10, s11, s12, s13, s14, s15, s16, s17, s18, s19, s20, s21, s22, s23, s24, s25, s26, s27⟩ : Inn) (⟨t0, t1, t2, t3, t4, t5, t6, t7, t8, t9, t10, t11, t12, t13, t14, t15, t16, t17, t18, t19, t20, t21, t22, t23, t24, t25, t26, t27⟩ : Inn))] : Option (List PV)) = RR
  simp only [t_innings_Same, e_innings_Same_slices_Equal_Status, e_innings_Same_slices_Equal_int, e_innings_Same_slices_Equal_bool, e_innings_Same_innings_Same_1, std, xOf, PXb, PXc, PXn, PXm, Nat.reduceAdd, Int.reduceBEq, L_slices_Equal_Status hN h.bt, L_slices_Equal_int hN h.bw', L_slices_Equal_int hN h.bf, L_slices_Equal_int hN h.bd, L_slices_Equal_bool hN h.sb, L_innings_Same_1]
  subst hres; simp only [sameS, eqN]
  refine congrArg (fun z => some [PV.bool z]) ?_
  simp only [Bool.and_assoc, Bool.and_comm, Bool.and_left_comm]
theorem atI_rep (n i : Nat) : atI (List.replicate n [.int 0]) i 0 = 0 := by
  unfold atI pvAt rowAt
  rw [List.getD_eq_getElem?_getD, List.getElem?_replicate]
  split <;> rfl
theorem open_bat (n : Nat) : bat60 (List.replicate n [.int 0]) 0 0 0 = true := by
  have hb : begunR (List.replicate n [.int 0]) = false := anyR_false.2 fun j _ _ => by rw [atI_rep]; rfl
  have ho : outs (List.replicate n [.int 0]) = 0 := by
    have : ∀ k, cntR (pIs (List.replicate n [.int 0]) 2) k = 0 := by
      intro k
      induction k with
      | zero => rfl
      | succ k ih => unfold cntR pIs; rw [atI_rep]; exact ih
    exact this _
  unfold bat60
  rw [hb, ho, anyR_false.2 fun j _ _ => by
    unfold bad60 pIs inAt
    rw [atI_rep, beq_false_of_ne (show (0 : Int) ≠ (j : Int) + 1 by omega)]
    rfl]
  rfl
theorem open_ok {r : Rul} {side t p : Int} (hc : codeS r = 0) (h1 : 1 ≤ side ∧ side ≤ 2) (h2 : 0 ≤ t ∧ t ≤ 1000000) (h3 : 0 ≤ p ∧ p ≤ 1000000) : InnOk r (openI r.side.toNat r.overs side t p) := by
  have rk := code_ok hc
  have hs := rk.side
  have hl : ∀ x : List PV, ((List.replicate r.side.toNat x).length : Int) = r.side := fun x => by rw [List.length_replicate]; omega
  have hz : NumOk 0 := ⟨by omega, by omega⟩
  have hov : oversOk r.overs r.overs = true := by
    have := rk.overs
    unfold oversOk
    cases h : r.overs == 0 with
    | true => rfl
    | false =>
      rw [beq_eq_false_iff_ne] at h
      exact btw_mk ⟨by omega, by omega⟩
  have hb := rk.balls
  exact ⟨hc, h1, hl _, hl _, hl _, show (0 : Int) ≤ 5 by omega, show (0 : Int) ≤ 0 ∧ 0 ≤ r.side from ⟨by omega, by omega⟩, show (0 : Int) ≤ 0 ∧ 0 ≤ r.side from ⟨by omega, by omega⟩, open_bat _, show (0 : Int) ≤ 0 ∧ 0 ≤ r.side from ⟨by omega, by omega⟩, show (0 : Int) ≤ 0 ∧ 0 ≤ r.side from ⟨by omega, by omega⟩,
    rfl, rfl, hov, show (0 : Int) ≤ 0 ∧ 0 ≤ r.balls - 1 from ⟨by omega, by omega⟩, ⟨h2.1, by have := h2.2; show t ≤ _; omega⟩, ⟨h3.1, by have := h3.2; show p ≤ _; omega⟩, hz, hz, hz, hz, ⟨h3.1, by have := h3.2; show p ≤ _; omega⟩, hz, hz, hz, hz, hz, anyR_false.2 fun j _ _ => by
      show numBad (atI (List.replicate _ _) j 0) = false
      rw [atI_rep]; rfl⟩
theorem begin_ok {r : Rul} {side t p : Int} (h : ((beginS r side t p).2 == 0) = true) : InnOk r (beginS r side t p).1 := by
  unfold beginS at h ⊢
  cases hc : codeS r == 0 with
  | false => rw [hc] at h; exact absurd (hc ▸ h) (by decide)
  | true =>
    cases hb : (!btw side 1 2 || !btw t 0 1000000 || !btw p 0 1000000) with
    | true => rw [hc, hb] at h; cases h
    | false =>
      rw [Bool.or_eq_false_iff, Bool.or_eq_false_iff, Bool.not_eq_false', Bool.not_eq_false', Bool.not_eq_false'] at hb
      exact open_ok (beq_iff_eq.1 hc) (btw_iff.1 hb.1.1) (btw_iff.1 hb.1.2) (btw_iff.1 hb.2)
theorem begin_lens (r : Rul) (side t p : Int) : (beginS r side t p).1.Fit ∧ (beginS r side t p).1.before = [] ∧ (beginS r side t p).1.bowlers = [] := by
  unfold beginS
  cases hc : codeS r == 0 with
  | false => exact ⟨⟨by show 0 ≤ 1048576; omega, by show 0 ≤ 1048576; omega, by show 0 ≤ 1048576; omega, by show 0 ≤ 1048576; omega, by show 0 ≤ 1048576; omega⟩, rfl, rfl⟩
  | true =>
    have hs := (code_ok (beq_iff_eq.1 hc)).side
    have hl : ∀ x : List PV, (List.replicate r.side.toNat x).length ≤ 1048576 := fun x => by rw [List.length_replicate]; omega
    cases (!btw side 1 2 || !btw t 0 1000000 || !btw p 0 1000000) with
    | true => exact ⟨⟨by show 0 ≤ 1048576; omega, by show 0 ≤ 1048576; omega, by show 0 ≤ 1048576; omega, by show 0 ≤ 1048576; omega, by show 0 ≤ 1048576; omega⟩, rfl, rfl⟩
    | false => exact ⟨⟨hl _, by show 0 ≤ 1048576; omega, by show 0 ≤ 1048576; omega, hl _, hl _⟩, rfl, rfl⟩
theorem pen_fit {s : Inn} (h : s.Fit) : (penS s).Fit := ⟨h.bt, h.bw, h.bf, h.bd, h.sb⟩
end Go.Px
end

section
namespace Go.Px
set_option linter.unusedVariables false
set_option linter.unusedSimpArgs false
set_option maxRecDepth 100000

/-- Rows that are not empty. -/
def Shp (L : Rows) : Prop := ∀ r ∈ L, r ≠ []
theorem put_at (r : List PV) (v : PV) (h : r ≠ []) : cellAt (putRow r 0 [v]) 0 = v := by
  cases r with
  | nil => exact absurd rfl h
  | cons a b => rfl
theorem row_mem {L : Rows} {i : Nat} (h : i < L.length) : rowAt L i ∈ L := by
  unfold rowAt
  rw [List.getD_eq_getElem?_getD, List.getElem?_eq_getElem h]
  exact List.getElem_mem h
theorem set_at {L : Rows} {p v : Int} (hs : Shp L) (hp : ix p < L.length) (i : Nat) : atI (setI L p v) i 0 = cond (Nat.beq i (ix p)) v (atI L i 0) := by
  unfold setI atI pvAt
  by_cases h : i = ix p
  · subst h
    have e : rowAt (L.set (ix p) (putRow (rowAt L (ix p)) 0 [.int v])) (ix p) = putRow (rowAt L (ix p)) 0 [.int v] := by
      unfold rowAt
      rw [List.getD_eq_getElem?_getD, List.getElem?_set_self hp]
      rfl
    rw [e, put_at _ _ (hs _ (row_mem hp)), Nat.beq_refl]
    rfl
  · have e : rowAt (L.set (ix p) (putRow (rowAt L (ix p)) 0 [.int v])) i = rowAt L i := by
      unfold rowAt
      simp only [List.getD_eq_getElem?_getD]
      rw [List.getElem?_set_ne (fun e => h e.symm)]
    have hb : Nat.beq i (ix p) = false := by
      cases hb : Nat.beq i (ix p) with
      | false => rfl
      | true => exact absurd (Nat.eq_of_beq_eq_true hb) h
    rw [e, hb]
    rfl
theorem put_ne (r : List PV) (v : PV) (h : r ≠ []) : putRow r 0 [v] ≠ [] := by
  cases r with
  | nil => exact absurd rfl h
  | cons a b => intro e; cases e
theorem set_shp {L : Rows} {p v : Int} (hs : Shp L) : Shp (setI L p v) := by
  unfold setI
  by_cases hp : ix p < L.length
  · intro r hr
    rcases List.mem_or_eq_of_mem_set hr with h | h
    · exact hs r h
    · rw [h]; exact put_ne _ _ (hs _ (row_mem hp))
  · rw [List.set_eq_of_length_le (by omega)]; exact hs
theorem ix_of {p : Int} {n : Nat} (h : inR p n = true) (hn : n ≤ 1048576) : (ix p : Int) = p - 1 ∧ ix p < n := by
  simp only [inR, iLe, Bool.and_eq_true, decide_eq_true_eq] at h
  unfold ix
  rw [wrap64 (by omega) (by omega)]
  omega

/-- How a count changes. -/
theorem cnt_upd {p q : Nat → Bool} {k : Nat} (h : ∀ j, j ≠ k → q j = p j) : ∀ n, k < n → cntR q n + cond (p k) 1 0 = cntR p n + cond (q k) 1 0
  | 0, hn => by omega
  | n + 1, hn => by
    unfold cntR
    by_cases e : k = n
    · subst e
      have : cntR q k = cntR p k := cnt_congr k (fun j hj => h j (by omega))
      rw [this]
      cases p k <;> cases q k <;> simp only [cond_true, cond_false] <;> omega
    · have ih := cnt_upd h n (by omega)
      rw [h n (fun x => e x.symm)]
      cases p n <;> simp only [cond_true, cond_false] <;> omega
theorem ones {L : Rows} {p v w : Int} (hs : Shp L) (hp : ix p < L.length) : cntR (pIs (setI L p v) w) L.length + cond (atI L (ix p) 0 == w) 1 0 = cntR (pIs L w) L.length + cond (v == w) 1 0 := by
  have h1 := cnt_upd (p := pIs L w) (q := pIs (setI L p v) w) (k := ix p) (fun j hj => by
    unfold pIs
    rw [set_at hs hp]
    have : Nat.beq j (ix p) = false := by
      cases hb : Nat.beq j (ix p) with
      | false => rfl
      | true => exact absurd (Nat.eq_of_beq_eq_true hb) hj
    rw [this]; rfl) L.length hp
  have h2 : pIs (setI L p v) w (ix p) = (v == w) := by unfold pIs; rw [set_at hs hp, Nat.beq_refl]; rfl
  rw [h2] at h1
  exact h1

/-- Batters who go together. -/
structure BatOk (L : Rows) (s n wk : Int) : Prop where
  le : ∀ i, i < L.length → atI L i 0 ≤ 3
  at1 : ∀ i, i < L.length → (atI L i 0 = 1 ↔ (s = (i : Int) + 1 ∨ n = (i : Int) + 1))
  here : begunR L = true → s ≠ 0 ∨ n ≠ 0
  ne : s ≠ 0 → s ≠ n
  wk : wk = outs L
theorem at_in {L : Rows} {s n : Int} (h : ∀ i, i < L.length → (atI L i 0 = 1 ↔ (s = (i : Int) + 1 ∨ n = (i : Int) + 1))) : ∀ i, i < L.length → pIs L 1 i = inAt s n i := fun i hi => by
  have := h i hi
  unfold pIs inAt
  rw [Bool.eq_iff_iff, Bool.or_eq_true, beq_iff_eq, beq_iff_eq, beq_iff_eq]
  exact this
theorem ins_val {L : Rows} {s n : Int} (hs : 0 ≤ s ∧ s ≤ (L.length : Int)) (hn : 0 ≤ n ∧ n ≤ (L.length : Int)) (hd : s ≠ 0 → s ≠ n) (h : ∀ i, i < L.length → (atI L i 0 = 1 ↔ (s = (i : Int) + 1 ∨ n = (i : Int) + 1))) :
    ins L = cond (!(s == 0)) 1 0 + cond (!(n == 0)) 1 0 := by
  have h1 : (s == n && !(s == 0)) = false := by
    cases h2 : s == 0 with
    | true => simp
    | false =>
      rw [beq_eq_false_iff_ne] at h2
      rw [beq_false_of_ne (hd h2)]; rfl
  unfold ins
  rw [cnt_congr L.length (at_in h), ← two_cnt hs hn h1, two_val]
theorem bat_iff {L : Rows} {s n wk : Int} (hs : 0 ≤ s ∧ s ≤ (L.length : Int)) (hn : 0 ≤ n ∧ n ≤ (L.length : Int)) : bat60 L s n wk = true ↔ BatOk L s n wk := by
  unfold bat60
  rw [Bool.and_eq_true, Bool.and_eq_true, Bool.not_eq_true', Bool.not_eq_true', anyR_false, beq_iff_eq, Bool.or_eq_false_iff]
  constructor
  · intro ⟨h1, ⟨h2, h3⟩, h4⟩
    have hd : s ≠ 0 → s ≠ n := fun h5 h6 => by
      rw [h6, beq_self_eq_true, Bool.and_true, Bool.not_eq_false', beq_iff_eq] at h3
      exact h5 (h6.trans h3)
    have ha : ∀ i, i < L.length → (atI L i 0 = 1 ↔ (s = (i : Int) + 1 ∨ n = (i : Int) + 1)) := fun i hi => by
      have := h1 i (by omega) (by omega)
      unfold bad60 at this
      rw [Bool.or_eq_false_iff, Bool.not_eq_false', beq_iff_eq] at this
      have := this.2
      unfold pIs inAt at this
      rw [Bool.eq_iff_iff, Bool.or_eq_true, beq_iff_eq, beq_iff_eq, beq_iff_eq] at this
      exact this
    refine ⟨fun i hi => ?_, ha, fun hb => ?_, hd, h4⟩
    · have := h1 i (by omega) (by omega)
      unfold bad60 at this
      rw [Bool.or_eq_false_iff] at this
      have := this.1
      simp only [iLt, decide_eq_false_iff_not] at this
      omega
    · rw [hb, Bool.true_and, ins_val hs hn hd ha] at h2
      simp only [iLt, decide_eq_false_iff_not] at h2
      by_cases h5 : s = 0
      · by_cases h6 : n = 0
        · subst h5; subst h6; exact absurd (by decide) h2
        · exact .inr h6
      · exact .inl h5
  · intro h
    refine ⟨fun i _ hi => ?_, ⟨?_, ?_⟩, h.wk⟩
    · unfold bad60
      rw [Bool.or_eq_false_iff, Bool.not_eq_false', beq_iff_eq, at_in h.at1 i (by omega)]
      have := h.le i (by omega)
      exact ⟨by simp only [iLt, decide_eq_false_iff_not]; omega, rfl⟩
    · cases hb : begunR L with
      | false => rfl
      | true =>
        rw [ins_val hs hn h.ne h.at1, Bool.true_and]
        rcases h.here hb with h5 | h5
        · rw [beq_false_of_ne h5]
          cases n == 0 <;> rfl
        · rw [beq_false_of_ne h5]
          cases s == 0 <;> rfl
    · cases h5 : s == 0 with
      | true => rfl
      | false =>
        rw [beq_eq_false_iff_ne] at h5
        rw [beq_false_of_ne (h.ne h5)]; rfl
end Go.Px
end

section
namespace Go.Px
set_option linter.unusedVariables false
set_option linter.unusedSimpArgs false
set_option maxRecDepth 100000

theorem bat_of {r : Rul} {s : Inn} (h : InnOk r s) : BatOk s.batters s.striker s.other s.wickets := (bat_iff (by rw [h.lb]; exact h.st) (by rw [h.lb]; exact h.ot)).1 h.bat
theorem side_le {r : Rul} {s : Inn} (h : InnOk r s) : 2 ≤ r.side ∧ r.side ≤ 11 := (code_ok h.code).side
theorem outs_set {L : Rows} {p v : Int} (hs : Shp L) (hp : ix p < L.length) : outs (setI L p v) + cond (atI L (ix p) 0 == 2) 1 0 = outs L + cond (v == 2) 1 0 := by
  have := ones (w := 2) (v := v) hs hp
  unfold outs
  rw [setI_len]
  exact this
theorem mkBat {L : Rows} {s n wk sd : Int} (b : BatOk L s n wk) (hl : (L.length : Int) = sd) (hs : 0 ≤ s ∧ s ≤ sd) (hn : 0 ≤ n ∧ n ≤ sd) : bat60 L s n wk = true := (bat_iff (by rw [hl]; exact hs) (by rw [hl]; exact hn)).2 b
theorem set_val {L : Rows} {p v : Int} (hs : Shp L) (hp : ix p < L.length) (i : Nat) : (i = ix p ∧ atI (setI L p v) i 0 = v) ∨ (i ≠ ix p ∧ atI (setI L p v) i 0 = atI L i 0) := by
  rw [set_at hs hp]
  by_cases h : i = ix p
  · subst h; rw [Nat.beq_refl]; exact .inl ⟨rfl, rfl⟩
  · cases hb : Nat.beq i (ix p) with
    | false => exact .inr ⟨h, rfl⟩
    | true => exact absurd (Nat.eq_of_beq_eq_true hb) h
theorem open_keep {r : Rul} {s : Inn} {p q : Int} (h : InnOk r s) (hs : Shp s.batters) (hl : ((openS s p q).2 == 0) = true) : InnOk r (openS s p q).1 := by
  unfold openS at hl ⊢
  cases hb : begunR s.batters with
  | true => rw [hb] at hl; cases hl
  | false =>
    cases hp : inR p s.batters.length with
    | false => rw [hb, hp] at hl; cases hl
    | true =>
      cases hq : inR q s.batters.length with
      | false => rw [hb, hp, hq] at hl; cases hl
      | true =>
        cases hd : p == q with
        | true => rw [hb, hp, hq, hd] at hl; cases hl
        | false =>
          have hsd := side_le h
          have hlen := h.lb
          have b := bat_of h
          obtain ⟨i1, j1⟩ := ix_of hp (by omega)
          obtain ⟨i2, j2⟩ := ix_of hq (by omega)
          have z : ∀ i, i < s.batters.length → atI s.batters i 0 = 0 := fun i hi => by
            have := anyR_false.1 hb i (by omega) (by omega)
            rw [Bool.not_eq_false', beq_iff_eq] at this
            exact this
          have hs1 := set_shp (p := p) (v := 1) hs
          have j3 : ix q < (setI s.batters p 1).length := by rw [setI_len]; exact j2
          rw [beq_eq_false_iff_ne] at hd
          have o1 := outs_set (v := 1) hs j1
          have o2 := outs_set (v := 1) hs1 j3
          have z1 := z _ j1
          have hl2 : (setI (setI s.batters p 1) q 1).length = s.batters.length := by rw [setI_len, setI_len]
          have hv := fun i => set_val (v := 1) hs1 j3 i
          have hv2 := fun i => set_val (v := 1) hs j1 i
          have z2 : atI (setI s.batters p 1) (ix q) 0 = 0 := by
            rcases hv2 (ix q) with ⟨a, c⟩ | ⟨a, c⟩
            · omega
            · rw [c]; exact z _ j2
          rw [z1] at o1
          rw [z2] at o2
          have bt : BatOk (setI (setI s.batters p 1) q 1) p q s.wickets := by
            refine ⟨fun i hi => ?_, fun i hi => ?_, fun _ => .inl (by omega), fun _ => hd, ?_⟩
            · rw [hl2] at hi
              have := z i hi
              rcases hv i with ⟨a, c⟩ | ⟨a, c⟩ <;> rcases hv2 i with ⟨a2, c2⟩ | ⟨a2, c2⟩ <;> omega
            · rw [hl2] at hi
              have := z i hi
              rcases hv i with ⟨a, c⟩ | ⟨a, c⟩ <;> rcases hv2 i with ⟨a2, c2⟩ | ⟨a2, c2⟩ <;> omega
            · have := b.wk
              have e1 : (cond ((0 : Int) == 2) 1 0 : Int) = 0 := rfl
              have e2 : (cond ((1 : Int) == 2) 1 0 : Int) = 0 := rfl
              omega
          have p1 : 1 ≤ p ∧ p ≤ (s.batters.length : Int) := by simpa [inR, iLe] using hp
          have q1 : 1 ≤ q ∧ q ≤ (s.batters.length : Int) := by simpa [inR, iLe] using hq
          have l3 : ((setI (setI s.batters p 1) q 1).length : Int) = r.side := by rw [hl2]; exact hlen
          have s1 : 0 ≤ p ∧ p ≤ r.side := by omega
          have s2 : 0 ≤ q ∧ q ≤ r.side := by omega
          have b6 := mkBat bt l3 s1 s2
          exact { h with lb := l3, st := s1, ot := s2, bat := b6 }
theorem may_ok {s : Inn} {p : Int} (h : (mayS s p == 0) = true) : inR p s.batters.length = true ∧ shortR s.batters s.striker s.other = true ∧ atI s.batters (ix p) 0 ≠ 1 ∧ atI s.batters (ix p) 0 ≠ 2 := by
  unfold mayS at h
  cases h1 : inR p s.batters.length with
  | false => rw [h1] at h; cases h
  | true =>
    cases h2 : shortR s.batters s.striker s.other with
    | false => rw [h1, h2] at h; cases h
    | true =>
      cases h3 : atI s.batters (ix p) 0 == 1 with
      | true => rw [h1, h2, h3] at h; cases h
      | false =>
        cases h4 : atI s.batters (ix p) 0 == 2 with
        | true => rw [h1, h2, h3, h4] at h; cases h
        | false => exact ⟨rfl, rfl, beq_eq_false_iff_ne.1 h3, beq_eq_false_iff_ne.1 h4⟩
theorem short_yes {L : Rows} {s n : Int} (h : shortR L s n = true) : begunR L = true ∧ (s = 0 ∨ n = 0) := by
  unfold shortR at h
  rw [Bool.and_eq_true, Bool.or_eq_true, beq_iff_eq, beq_iff_eq] at h
  exact h
theorem enter_keep {r : Rul} {s : Inn} {p : Int} (h : InnOk r s) (hs : Shp s.batters) (hl : ((enterS s p).2 == 0) = true) : InnOk r (enterS s p).1 := by
  unfold enterS at hl ⊢
  cases hm : mayS s p == 0 with
  | false => rw [hm] at hl; exact absurd (hm ▸ hl) (by decide)
  | true =>
    obtain ⟨hp, hsh, n1, n2⟩ := may_ok hm
    obtain ⟨hbeg, hz⟩ := short_yes hsh
    have hsd := side_le h
    have hlen := h.lb
    have b := bat_of h
    obtain ⟨i1, j1⟩ := ix_of hp (by omega)
    have hl2 : (setI s.batters p 1).length = s.batters.length := setI_len _ _ _
    have hv := fun i => set_val (v := 1) hs j1 i
    have o1 := outs_set (v := 1) hs j1
    rw [beq_false_of_ne n2] at o1
    have e2 : (cond ((1 : Int) == 2) 1 0 : Int) = 0 := rfl
    have e3 : (cond false 1 0 : Int) = 0 := rfl
    have p1 : 1 ≤ p ∧ p ≤ (s.batters.length : Int) := by simpa [inR, iLe] using hp
    have a1 := b.at1 _ j1
    have hst := h.st
    have hot := h.ot
    have hwk := b.wk
    cases h0 : s.striker == 0 with
    | true =>
      rw [beq_iff_eq] at h0
      have bt : BatOk (setI s.batters p 1) p s.other s.wickets := by
        refine ⟨fun i hi => ?_, fun i hi => ?_, fun _ => .inl (by omega), fun _ => by omega, by omega⟩
        · rw [hl2] at hi
          have := b.le i hi
          rcases hv i with ⟨a, c⟩ | ⟨a, c⟩ <;> omega
        · rw [hl2] at hi
          have := b.at1 i hi
          rcases hv i with ⟨a, c⟩ | ⟨a, c⟩ <;> omega
      have l3 : ((setI s.batters p 1).length : Int) = r.side := by rw [hl2]; exact hlen
      have s1 : 0 ≤ p ∧ p ≤ r.side := by omega
      have b6 := mkBat bt l3 s1 hot
      exact { h with lb := l3, st := s1, ot := hot, bat := b6 }
    | false =>
      rw [beq_eq_false_iff_ne] at h0
      have bt : BatOk (setI s.batters p 1) s.striker p s.wickets := by
        refine ⟨fun i hi => ?_, fun i hi => ?_, fun _ => .inl h0, fun _ => by omega, by omega⟩
        · rw [hl2] at hi
          have := b.le i hi
          rcases hv i with ⟨a, c⟩ | ⟨a, c⟩ <;> omega
        · rw [hl2] at hi
          have := b.at1 i hi
          rcases hv i with ⟨a, c⟩ | ⟨a, c⟩ <;> omega
      have l3 : ((setI s.batters p 1).length : Int) = r.side := by rw [hl2]; exact hlen
      have s1 : 0 ≤ p ∧ p ≤ r.side := by omega
      have b6 := mkBat bt l3 hst s1
      exact { h with lb := l3, st := hst, ot := s1, bat := b6 }
theorem cnt_len (p : Nat → Bool) (n : Nat) : cntR p n ≤ n := (cnt_le p n).2
theorem wk_inc {r : Rul} {s : Inn} (h : InnOk r s) : inc s.wickets = s.wickets + 1 := by
  have h1 := (bat_of h).wk
  have h2 := cnt_le (pIs s.batters 2) s.batters.length
  have h3 := side_le h
  have h4 := h.lb
  unfold outs at h1
  exact wrap64 (by omega) (by omega)
theorem timeOut_keep {r : Rul} {s : Inn} {p : Int} (h : InnOk r s) (hs : Shp s.batters) (hl : ((timeOutS s p).2 == 0) = true) : InnOk r (timeOutS s p).1 := by
  unfold timeOutS at hl ⊢
  cases hm : mayS s p == 0 with
  | false => rw [hm] at hl; exact absurd (hm ▸ hl) (by decide)
  | true =>
    obtain ⟨hp, hsh, n1, n2⟩ := may_ok hm
    obtain ⟨hbeg, hz⟩ := short_yes hsh
    have hsd := side_le h
    have hlen := h.lb
    have b := bat_of h
    obtain ⟨i1, j1⟩ := ix_of hp (by omega)
    have hl2 : (setI s.batters p 2).length = s.batters.length := setI_len _ _ _
    have hv := fun i => set_val (v := 2) hs j1 i
    have o1 := outs_set (v := 2) hs j1
    rw [beq_false_of_ne n2] at o1
    have e2 : (cond ((2 : Int) == 2) 1 0 : Int) = 1 := rfl
    have e3 : (cond false 1 0 : Int) = 0 := rfl
    have a1 := b.at1 _ j1
    have hst := h.st
    have hot := h.ot
    have hwk := b.wk
    have hin := wk_inc h
    have bt : BatOk (setI s.batters p 2) s.striker s.other (inc s.wickets) := by
      refine ⟨fun i hi => ?_, fun i hi => ?_, fun _ => b.here hbeg, b.ne, by omega⟩
      · rw [hl2] at hi
        have := b.le i hi
        rcases hv i with ⟨a, c⟩ | ⟨a, c⟩ <;> omega
      · rw [hl2] at hi
        have := b.at1 i hi
        rcases hv i with ⟨a, c⟩ | ⟨a, c⟩ <;> omega
    have l3 : ((setI s.batters p 2).length : Int) = r.side := by rw [hl2]; exact hlen
    have b6 := mkBat bt l3 hst hot
    exact { h with lb := l3, bat := b6 }
theorem retire_ok {s : Inn} {p : Int} {hurt : Bool} (h : ((retireS s p hurt).2 == 0) = true) : inR p s.batters.length = true ∧ s.striker ≠ 0 ∧ s.other ≠ 0 ∧ (p = s.striker ∨ p = s.other) ∧ (hurt && ((leftR s.batters s.batters.length).length : Int) == 0) = false := by
  unfold retireS at h
  cases h1 : inR p s.batters.length with
  | false => rw [h1] at h; cases h
  | true =>
    cases h2 : s.striker == 0 with
    | true => rw [h1, h2] at h; cases h
    | false =>
      cases h3 : s.other == 0 with
      | true => rw [h1, h2, h3] at h; cases h
      | false =>
        cases h4 : (!(p == s.striker) && !(p == s.other)) with
        | true => rw [h1, h2, h3, h4] at h; cases h
        | false =>
          cases h5 : (hurt && ((leftR s.batters s.batters.length).length : Int) == 0) with
          | true => rw [h1, h2, h3, h4, h5] at h; cases h
          | false =>
            refine ⟨rfl, beq_eq_false_iff_ne.1 h2, beq_eq_false_iff_ne.1 h3, ?_, rfl⟩
            rw [Bool.and_eq_false_iff, Bool.not_eq_false', Bool.not_eq_false', beq_iff_eq, beq_iff_eq] at h4
            exact h4
theorem retire_keep {r : Rul} {s : Inn} {p : Int} {hurt : Bool} (h : InnOk r s) (hs : Shp s.batters) (hl : ((retireS s p hurt).2 == 0) = true) : InnOk r (retireS s p hurt).1 := by
  obtain ⟨hp, z1, z2, hpp, hlf⟩ := retire_ok hl
  have hsd := side_le h
  have hlen := h.lb
  have b := bat_of h
  obtain ⟨i1, j1⟩ := ix_of hp (by omega)
  have a1 := b.at1 _ j1
  have hst := h.st
  have hot := h.ot
  have hwk := b.wk
  have hin := wk_inc h
  have hne := b.ne z1
  have hold : atI s.batters (ix p) 0 = 1 := a1.2 (by omega)
  have e : (retireS s p hurt).1 = { s with striker := cond (p == s.striker) 0 s.striker, other := cond (p == s.striker) s.other 0, batters := setI s.batters p (cond hurt 3 2), wickets := cond hurt s.wickets (inc s.wickets) } := by
    unfold retireS
    rw [hp, beq_false_of_ne z1, beq_false_of_ne z2, hlf]
    have : (!(p == s.striker) && !(p == s.other)) = false := by
      rw [Bool.and_eq_false_iff, Bool.not_eq_false', Bool.not_eq_false', beq_iff_eq, beq_iff_eq]
      exact hpp
    rw [this]
    rfl
  rw [e]
  have hl2 : (setI s.batters p (cond hurt 3 2)).length = s.batters.length := setI_len _ _ _
  have hv := fun i => set_val (v := cond hurt 3 2) hs j1 i
  have o1 := outs_set (v := cond hurt 3 2) hs j1
  rw [hold] at o1
  have e1 : (cond ((1 : Int) == 2) 1 0 : Int) = 0 := rfl
  have hvv : (cond hurt 3 2 : Int) ≠ 1 ∧ (cond hurt 3 2 : Int) ≤ 3 := by cases hurt <;> decide
  have hw2 : (cond hurt s.wickets (inc s.wickets) : Int) = outs (setI s.batters p (cond hurt 3 2)) := by
    cases hurt with
    | true =>
      have e2 : (cond ((cond true 3 2 : Int) == 2) 1 0 : Int) = 0 := rfl
      show s.wickets = _
      omega
    | false =>
      have e2 : (cond ((cond false 3 2 : Int) == 2) 1 0 : Int) = 1 := rfl
      show inc s.wickets = _
      omega
  have bt : BatOk (setI s.batters p (cond hurt 3 2)) (cond (p == s.striker) 0 s.striker) (cond (p == s.striker) s.other 0) (cond hurt s.wickets (inc s.wickets)) := by
    cases hq : p == s.striker with
    | true =>
      rw [beq_iff_eq] at hq
      refine ⟨fun i hi => ?_, fun i hi => ?_, fun _ => .inr z2, fun h9 => absurd rfl h9, hw2⟩
      · rw [hl2] at hi
        have := b.le i hi
        rcases hv i with ⟨a, c⟩ | ⟨a, c⟩ <;> omega
      · rw [hl2] at hi
        have := b.at1 i hi
        show _ ↔ ((0 : Int) = _ ∨ s.other = _)
        rcases hv i with ⟨a, c⟩ | ⟨a, c⟩ <;> omega
    | false =>
      rw [beq_eq_false_iff_ne] at hq
      refine ⟨fun i hi => ?_, fun i hi => ?_, fun _ => .inl z1, fun h9 => z1, hw2⟩
      · rw [hl2] at hi
        have := b.le i hi
        rcases hv i with ⟨a, c⟩ | ⟨a, c⟩ <;> omega
      · rw [hl2] at hi
        have := b.at1 i hi
        show _ ↔ (s.striker = _ ∨ (0 : Int) = _)
        rcases hv i with ⟨a, c⟩ | ⟨a, c⟩ <;> omega
  have s1 : 0 ≤ (cond (p == s.striker) 0 s.striker : Int) ∧ (cond (p == s.striker) 0 s.striker : Int) ≤ r.side := by cases p == s.striker <;> simp only [cond_true, cond_false] <;> omega
  have s2 : 0 ≤ (cond (p == s.striker) s.other 0 : Int) ∧ (cond (p == s.striker) s.other 0 : Int) ≤ r.side := by cases p == s.striker <;> simp only [cond_true, cond_false] <;> omega
  have l3 : ((setI s.batters p (cond hurt 3 2)).length : Int) = r.side := by rw [hl2]; exact hlen
  have b6 := mkBat bt l3 s1 s2
  exact { h with lb := l3, st := s1, ot := s2, bat := b6 }
end Go.Px
end

section
namespace Go.Px
set_option linter.unusedVariables false
set_option linter.unusedSimpArgs false
set_option maxRecDepth 100000

theorem set_either (L : Rows) (p v : Int) (i : Nat) : atI (setI L p v) i 0 = v ∨ atI (setI L p v) i 0 = atI L i 0 := by
  unfold setI atI pvAt
  by_cases h : i = ix p
  · subst h
    by_cases hp : ix p < L.length
    · have e : rowAt (L.set (ix p) (putRow (rowAt L (ix p)) 0 [.int v])) (ix p) = putRow (rowAt L (ix p)) 0 [.int v] := by
        unfold rowAt
        rw [List.getD_eq_getElem?_getD, List.getElem?_set_self hp]
        rfl
      rw [e]
      cases rowAt L (ix p) with
      | nil => exact .inr rfl
      | cons a b => exact .inl rfl
    · rw [List.set_eq_of_length_le (by omega)]; exact .inr rfl
  · have e : rowAt (L.set (ix p) (putRow (rowAt L (ix p)) 0 [.int v])) i = rowAt L i := by
      unfold rowAt
      simp only [List.getD_eq_getElem?_getD]
      rw [List.getElem?_set_ne (fun e => h e.symm)]
    rw [e]; exact .inr rfl
theorem at_app {L M : Rows} {i : Nat} (h : i < L.length) : atI (L ++ M) i 0 = atI L i 0 := by
  unfold atI pvAt rowAt
  simp only [List.getD_eq_getElem?_getD]
  rw [List.getElem?_append_left h]
theorem at_last (L : Rows) (b : Int) : atI (L ++ [[.int b]]) L.length 0 = b := by
  unfold atI pvAt rowAt
  simp only [List.getD_eq_getElem?_getD]
  rw [List.getElem?_append_right (Nat.le_refl _)]
  simp [cellAt, pvI]
theorem diff_app {L : Rows} {n b : Int} (h : diffOk L n = true) (hb : btw b 1 n = true) (hh : hasI L L.length b = false) : diffOk (L ++ [[.int b]]) n = true := by
  unfold diffOk at h ⊢
  rw [Bool.not_eq_true', anyR_false] at h ⊢
  intro j _ hj
  simp only [List.length_append, List.length_cons, List.length_nil] at hj
  unfold diffBad
  by_cases e : j < L.length
  · have := h j (by omega) (by omega)
    unfold diffBad at this
    have hc : hasI (L ++ [[.int b]]) j (atI L j 0) = hasI L j (atI L j 0) := anyR_congr j 0 (fun i _ hi => by rw [at_app (by omega)])
    rw [at_app e, hc]
    exact this
  · have : j = L.length := by omega
    subst this
    have hc : hasI (L ++ [[.int b]]) L.length b = hasI L L.length b := anyR_congr _ 0 (fun i _ hi => by rw [at_app (by omega)])
    rw [at_last, hb, hc, hh]
    rfl

def lim : Int := 999999900
/-- No number is near its bound. -/
structure Small (s : Inn) : Prop where
  target : s.target ≤ 999999900
  runs : s.runs ≤ 999999900
  wides : s.wides ≤ 999999900
  noballs : s.noballs ≤ 999999900
  byes : s.byes ≤ 999999900
  legbyes : s.legbyes ≤ 999999900
  pens : s.pens ≤ 999999900
  complete : s.complete ≤ 999999900
  ballage : s.ballage ≤ 999999900
  rev1 : s.rev1 ≤ 999999900
  rev2 : s.rev2 ≤ 999999900
  bowled : ∀ j, j < s.bowled.length → atI s.bowled j 0 ≤ 999999900
theorem num_add {x y : Int} (h : NumOk x) (h1 : x ≤ 999999900) (h2 : 0 ≤ y) (h3 : y ≤ 100) : IntKind.i64.wrap (x + y) = x + y ∧ NumOk (x + y) := by
  unfold NumOk at h ⊢
  exact ⟨wrap64 (by omega) (by omega), by omega⟩
theorem num_inc {x : Int} (h : NumOk x) (h1 : x ≤ 999999900) : NumOk (inc x) := by
  have := num_add h h1 (y := 1) (by omega) (by omega)
  unfold inc
  rw [this.1]; exact this.2
theorem bat_swap {L : Rows} {s n wk : Int} (b : BatOk L s n wk) : BatOk L n s wk := ⟨b.le, fun i hi => (b.at1 i hi).trans or_comm, fun h => (b.here h).symm, fun h e => b.ne (e ▸ h) e.symm, b.wk⟩
theorem out_bat {L : Rows} {s n wk : Int} (b : BatOk L s n wk) (hs : Shp L) (hl : L.length ≤ 1048576) (h1 : s ≠ 0) (h2 : n ≠ 0) (hp : inR s L.length = true) (hw : inc wk = wk + 1) : BatOk (setI L s 2) 0 n (inc wk) := by
  obtain ⟨i1, j1⟩ := ix_of hp hl
  have hl2 : (setI L s 2).length = L.length := setI_len _ _ _
  have hv := fun i => set_val (v := 2) hs j1 i
  have o1 := outs_set (v := 2) hs j1
  have hold : atI L (ix s) 0 = 1 := (b.at1 _ j1).2 (by omega)
  rw [hold] at o1
  have e1 : (cond ((1 : Int) == 2) 1 0 : Int) = 0 := rfl
  have e2 : (cond ((2 : Int) == 2) 1 0 : Int) = 1 := rfl
  have hwk := b.wk
  have hne := b.ne h1
  refine ⟨fun i hi => ?_, fun i hi => ?_, fun _ => .inr h2, fun h9 => absurd rfl h9, by omega⟩
  · rw [hl2] at hi
    have := b.le i hi
    rcases hv i with ⟨a, c⟩ | ⟨a, c⟩ <;> omega
  · rw [hl2] at hi
    have := b.at1 i hi
    rcases hv i with ⟨a, c⟩ | ⟨a, c⟩ <;> omega
/-- After the runs of a delivery. -/
theorem ran_keepOk {r : Rul} {s : Inn} {d : Del} (h : InnOk r s) (hs : Shp s.batters) (z1 : s.striker ≠ 0) (z2 : s.other ≠ 0) (hv : (d.how == 0) = false → (d.victim == 1) = true ∨ (d.victim == 2) = true) : InnOk r (ranS s d) ∧ Shp (ranS s d).batters := by
  have hsd := side_le h
  have hlen := h.lb
  have b := bat_of h
  have hst := h.st
  have hot := h.ot
  have hw := wk_inc h
  have p1 : inR s.striker s.batters.length = true := by simp only [inR, iLe, Bool.and_eq_true, decide_eq_true_eq]; omega
  have p2 : inR s.other s.batters.length = true := by simp only [inR, iLe, Bool.and_eq_true, decide_eq_true_eq]; omega
  have b1 := out_bat b hs (by omega) z1 z2 p1 hw
  have b2 := out_bat (bat_swap b) hs (by omega) z2 z1 p2 hw
  have l1 : ((setI s.batters s.striker 2).length : Int) = r.side := by rw [setI_len]; exact hlen
  have l2 : ((setI s.batters s.other 2).length : Int) = r.side := by rw [setI_len]; exact hlen
  have hz : (0 : Int) ≤ 0 ∧ (0 : Int) ≤ r.side := by omega
  have c1 := mkBat b1 l1 hz hot
  have c2 := mkBat (bat_swap b1) l1 hot hz
  have c3 := mkBat b2 l2 hz hst
  have c4 := mkBat (bat_swap b2) l2 hst hz
  have c5 := mkBat (bat_swap b) hlen hot hst
  have s1 : Shp (setI s.batters s.striker 2) := set_shp hs
  have s2 : Shp (setI s.batters s.other 2) := set_shp hs
  unfold ranS
  rw [p1, p2, beq_false_of_ne z1, beq_false_of_ne z2]
  cases hd : d.how == 0 with
  | true =>
    cases (!(d.runs.tmod 2 == 0) != d.crossed) with
    | false => exact ⟨h, hs⟩
    | true => exact ⟨{ h with st := hot, ot := hst, bat := c5 }, hs⟩
  | false =>
    cases h1 : d.victim == 1 with
    | true =>
      cases (!(d.runs.tmod 2 == 0) != d.crossed) with
      | false => exact ⟨{ h with lb := l1, st := hz, ot := hot, bat := c1 }, s1⟩
      | true => exact ⟨{ h with lb := l1, st := hot, ot := hz, bat := c2 }, s1⟩
    | false =>
      have h2 : (d.victim == 2) = true := by
        rcases hv hd with h3 | h3
        · rw [h1] at h3; cases h3
        · exact h3
      rw [h2]
      cases (!(d.runs.tmod 2 == 0) != d.crossed) with
      | false => exact ⟨{ h with lb := l2, st := hst, ot := hz, bat := c4 }, s2⟩
      | true => exact ⟨{ h with lb := l2, st := hz, ot := hst, bat := c3 }, s2⟩
theorem bowled_inc {L : Rows} {p : Int} {n : Nat} (h : anyL numBad L = false) (hp : inR p L.length = true) (hn : L.length ≤ 1048576) (hsm : ∀ j, j < L.length → atI L j 0 ≤ 999999900) : anyL numBad (setI L p (inc (atI L (ix p) 0))) = false := by
  obtain ⟨i1, j1⟩ := ix_of hp hn
  unfold anyL at h ⊢
  rw [anyR_false] at h ⊢
  intro j _ hj
  rw [setI_len] at hj
  have hj1 := h (ix p) (by omega) (by omega)
  have hj2 := h j (by omega) hj
  rcases set_either L p (inc (atI L (ix p) 0)) j with e | e <;> rw [e]
  · exact num_iff.2 (num_inc (num_iff.1 hj1) (hsm _ j1))
  · exact hj2
theorem over_keepOk {r : Rul} {s : Inn} {c : Bool} (h : InnOk r s) (hb : inR s.bowler s.bowled.length = true) (h1 : s.complete ≤ 999999900) (h2 : s.ballage ≤ 999999900) (h3 : ∀ j, j < s.bowled.length → atI s.bowled j 0 ≤ 999999900) : InnOk r (overS r s c).1 := by
  have hsd := side_le h
  have rk := (code_ok h.code).balls
  have hld := h.ld
  have hio := h.io
  have hbb : btw s.bowler 1 r.side = true := by
    simp only [inR, iLe, Bool.and_eq_true, decide_eq_true_eq] at hb
    exact btw_mk (by omega)
  have hL : diffOk (cond (hasI s.bowlers s.bowlers.length s.bowler) s.bowlers (s.bowlers ++ [[.int s.bowler]])) r.side = true := by
    cases hh : hasI s.bowlers s.bowlers.length s.bowler with
    | true => exact h.dw
    | false => exact diff_app h.dw hbb hh
  have hbd : anyL numBad (cond c (setI s.bowled s.bowler (inc (atI s.bowled (ix s.bowler) 0))) s.bowled) = false := by
    cases c with
    | false => exact h.bowled
    | true => exact bowled_inc (n := 0) h.bowled hb (by omega) h3
  have hbl : ((cond c (setI s.bowled s.bowler (inc (atI s.bowled (ix s.bowler) 0))) s.bowled).length : Int) = r.side := by
    cases c with
    | false => exact hld
    | true => show ((setI _ _ _).length : Int) = _; rw [setI_len]; exact hld
  have hag : NumOk (cond c (inc s.ballage) s.ballage) := by
    cases c with
    | false => exact h.ballage
    | true => exact num_inc h.ballage h2
  have hi1 : inc s.inover = s.inover + 1 := wrap64 (by omega) (by omega)
  have ho : 0 ≤ (cond c (inc s.inover) s.inover : Int) ∧ (cond c (inc s.inover) s.inover : Int) ≤ r.balls := by
    cases c <;> simp only [cond_true, cond_false] <;> omega
  unfold overS
  rw [hb, h.code]
  cases hlt : iLt (cond c (inc s.inover) s.inover) r.balls with
  | true =>
    have hio2 : 0 ≤ (cond c (inc s.inover) s.inover : Int) ∧ (cond c (inc s.inover) s.inover : Int) ≤ r.balls - 1 := by
      simp only [iLt, decide_eq_true_eq] at hlt
      omega
    simp only [Bool.not_true, beq_self_eq_true, Bool.or_self, cond_false, hlt, cond_true]
    exact { h with ld := hbl, dw := hL, io := hio2, ballage := hag, bowled := hbd }
  | false =>
    have hcm := num_inc h.complete h1
    have hz : (0 : Int) ≤ 0 ∧ (0 : Int) ≤ r.balls - 1 := by omega
    have hz2 : (0 : Int) ≤ 0 ∧ (0 : Int) ≤ r.side := by omega
    simp only [Bool.not_true, beq_self_eq_true, Bool.or_self, cond_false, hlt]
    exact { h with ld := hbl, dw := rfl, df := hL, io := hz, ballage := hag, bowled := hbd, complete := hcm, bow := hz2 }
theorem change_keep {r : Rul} {s : Inn} (h : InnOk r s) : InnOk r (changeS s) := by
  have c := mkBat (bat_swap (bat_of h)) h.lb h.ot h.st
  exact { h with st := h.ot, ot := h.st, bat := c }
theorem legal_nums {d : Del} (h : (legalS d == 0) = true) : (0 ≤ d.runs ∧ d.runs ≤ 7) ∧ (0 ≤ d.short ∧ d.short ≤ d.runs) ∧ (d.boundary = 0 ∨ d.boundary = 4 ∨ d.boundary = 6) := by
  unfold legalS at h
  cases h1 : (iLt d.type 1 || iLt 3 d.type || iLt 3 d.source || iLt 10 d.how || !btw d.sector 0 8) with
  | true => rw [h1] at h; cases h
  | false =>
    cases h2 : (!btw d.runs 0 7 || !btw d.short 0 d.runs || (!(d.boundary == 0) && !(d.boundary == 4) && !(d.boundary == 6))) with
    | true => rw [h1, h2] at h; cases h
    | false =>
      rw [Bool.or_eq_false_iff, Bool.or_eq_false_iff, Bool.not_eq_false', Bool.not_eq_false', btw_iff, btw_iff, Bool.and_eq_false_iff, Bool.and_eq_false_iff, Bool.not_eq_false', Bool.not_eq_false', Bool.not_eq_false', beq_iff_eq, beq_iff_eq, beq_iff_eq] at h2
      exact ⟨h2.1.1, h2.1.2, by rcases h2.2 with (h3 | h3) | h3 <;> simp [h3]⟩
theorem cred_nums {r : Rul} {d : Del} (rk : RulOk r) (h : (legalS d == 0) = true) : (0 ≤ (creditS r d).wides ∧ (creditS r d).wides ≤ 18) ∧ (0 ≤ (creditS r d).noballs ∧ (creditS r d).noballs ≤ 5) ∧ (0 ≤ (creditS r d).byes ∧ (creditS r d).byes ≤ 13) ∧ (0 ≤ (creditS r d).legbyes ∧ (creditS r d).legbyes ≤ 13) ∧ (0 ≤ totalS (creditS r d) ∧ totalS (creditS r d) ≤ 62) := by
  obtain ⟨h1, h2, h3⟩ := legal_nums h
  have hc : creditS r d = restS r d := by unfold creditS; rw [h]; rfl
  have hw := rk.wide
  have hn := rk.noball
  have e1 : IntKind.i64.wrap (IntKind.i64.wrap (d.runs - d.short) + d.boundary) = d.runs - d.short + d.boundary := by
    rw [wrap64 (n := d.runs - d.short) (by omega) (by omega)]
    exact wrap64 (by omega) (by omega)
  have e2 : IntKind.i64.wrap (r.wide + (d.runs - d.short + d.boundary)) = r.wide + (d.runs - d.short + d.boundary) := wrap64 (by omega) (by omega)
  rw [hc]
  unfold totalS restS
  simp only [e1, e2]
  generalize hnn : d.runs - d.short + d.boundary = n
  have hn0 : 0 ≤ n ∧ n ≤ 13 := by omega
  have q : ∀ (b : Bool) (x : Int), (cond b x 0 : Int) = x ∨ (cond b x 0 : Int) = 0 := fun b x => by cases b <;> simp
  have a1 := q (!(d.type == 2) && d.source == 1) n
  have a2 := q (d.type == 2) (r.wide + n)
  have a3 := q (d.type == 3) r.noball
  have a4 := q (!(d.type == 2) && d.source == 2) n
  have a5 := q (!(d.type == 2) && d.source == 3) n
  generalize (cond (!(d.type == 2) && d.source == 1) n 0 : Int) = x1 at *
  generalize (cond (d.type == 2) (r.wide + n) 0 : Int) = x2 at *
  generalize (cond (d.type == 3) r.noball 0 : Int) = x3 at *
  generalize (cond (!(d.type == 2) && d.source == 2) n 0 : Int) = x4 at *
  generalize (cond (!(d.type == 2) && d.source == 3) n 0 : Int) = x5 at *
  rw [wrap64 (n := x1 + x2) (by omega) (by omega), wrap64 (n := x1 + x2 + x3) (by omega) (by omega), wrap64 (n := x1 + x2 + x3 + x4) (by omega) (by omega), wrap64 (n := x1 + x2 + x3 + x4 + x5) (by omega) (by omega)]
  omega
theorem hit_keep {r : Rul} {s : Inn} {d : Del} (h : InnOk r s) (hs : Shp s.batters) (sm : Small s) (hbeg : begunR s.batters = true) (hr : (refuseS r s d == 0) = true) : InnOk r (hitS r s d) := by
  obtain ⟨q1, q2, q3, q4, q5, q6⟩ := refuse_ok hr
  obtain ⟨z1, z2⟩ := short_no q1 hbeg
  rw [beq_eq_false_iff_ne] at z1 z2
  obtain ⟨k, _⟩ := ran_keepOk (d := d) h hs z1 z2 (fun hd => poss_victim q5 hd)
  obtain ⟨k1, k2, k3, k4, k5, k6, k7, k8, k9, k10⟩ := ran_keep s d
  have kb : (ranS s d).ballage = s.ballage := by
    unfold ranS
    cases (!(d.runs.tmod 2 == 0) != d.crossed) <;> exact P_c (P := fun x : Inn => x.ballage = s.ballage) _ _ _ rfl (P_c (P := fun x : Inn => x.ballage = s.ballage) _ _ _ rfl rfl)
  have hin := bowler_in h q2
  have ho := over_keepOk (c := (creditS r d).counts) k (by rw [k9, k10]; exact hin) (by rw [k7]; exact sm.complete) (by rw [kb]; exact sm.ballage) (by rw [k10]; exact sm.bowled)
  obtain ⟨n1, n2, n3, n4, n5⟩ := cred_nums (code_ok h.code) q4
  have m1 := num_add h.runs sm.runs n5.1 (by omega)
  have m2 := num_add h.wides sm.wides n1.1 (by omega)
  have m3 := num_add h.noballs sm.noballs n2.1 (by omega)
  have m4 := num_add h.byes sm.byes n3.1 (by omega)
  have m5 := num_add h.legbyes sm.legbyes n4.1 (by omega)
  simp only [hitS, m1.1, m2.1, m3.1, m4.1, m5.1]
  generalize overS r (ranS s d) (creditS r d).counts = o at ho ⊢
  obtain ⟨o1, o2⟩ := o
  cases o2 with
  | false => exact { ho with runs := m1.2, wides := m2.2, noballs := m3.2, byes := m4.2, legbyes := m5.2 }
  | true => exact { change_keep ho with runs := m1.2, wides := m2.2, noballs := m3.2, byes := m4.2, legbyes := m5.2 }
end Go.Px
end
