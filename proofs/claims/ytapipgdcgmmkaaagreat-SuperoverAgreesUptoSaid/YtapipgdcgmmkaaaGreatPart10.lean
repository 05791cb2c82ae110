/- Part 10. -/
import Derived.Test.YtapipgdcgmmkaaaGreatPart09
set_option linter.unusedVariables false
set_option linter.unusedSimpArgs false
section
namespace Go.Px
set_option maxRecDepth 100000
structure Lens (s t : Inn) : Prop where
 bt : t.batters.length = s.batters.length
 bd : t.bowled.length = s.bowled.length
 sb : t.subs.length = s.subs.length
 bw : t.bowlers.length ≤ s.bowlers.length + 1
 bf : t.before.length ≤ s.before.length + s.bowlers.length + 1
theorem Lens.refl (s : Inn) : Lens s s := ⟨rfl, rfl, rfl, by omega, by omega⟩
theorem P_c {α : Type} {P : α → Prop} (b : Bool) (x y : α) (hx : P x) (hy : P y) : P (cond b x y) := by cases b <;> assumption
theorem YI (s : Inn) (d : Del) : Lens s (Aw s d) := by
 have hb : ∀ (b : Bool), (cond b (Am s.batters s.striker 2) s.batters).length = s.batters.length := fun b => by cases b <;> simp [BU]
 have hc : ∀ (b : Bool), (cond b (Am s.batters s.other 2) s.batters).length = s.batters.length := fun b => by cases b <;> simp [BU]
 unfold Aw
 cases (!(d.runs.tmod 2 == 0) != d.crossed) <;> refine P_c _ _ _ ⟨hb _, rfl, rfl, ?_, ?_⟩ (P_c _ _ _ ⟨hc _, rfl, rfl, ?_, ?_⟩ ⟨rfl, rfl, rfl, ?_, ?_⟩) <;> simp <;> omega
theorem W5 (r : Rul) (s : Inn) (c : Bool) : Lens s (B6 r s c).1 := by
 have hl : (cond (EG s.bowlers s.bowlers.length s.bowler) s.bowlers (s.bowlers ++ [[.int s.bowler]])).length ≤ s.bowlers.length + 1 := by
  cases EG s.bowlers s.bowlers.length s.bowler <;> simp
 have hd : (cond c (Am s.bowled s.bowler (inc (atI s.bowled (ix s.bowler) 0))) s.bowled).length = s.bowled.length := by cases c <;> simp [BU]
 unfold B6
 refine P_c (P := fun x : Inn × Bool => Lens s x.1) _ _ _ (Lens.refl s) (P_c (P := fun x : Inn × Bool => Lens s x.1) _ _ _ ⟨rfl, hd, rfl, hl, by simp; omega⟩ ⟨rfl, hd, rfl, by simp, ?_⟩)
 simp only
 omega
def VS (a b c d : Int) : Int := cond (!(a == 0)) a (cond (!(b == 0)) b (cond (!(c == 0)) c (cond (!(d == 0)) d 0)))
def GD (r : Rul) (s : Inn) (d : Del) : Int :=
 cond (Cx s.batters s.striker s.other) 6 (cond (s.bowler == 0) 7 (VS (N6 r s) (E7 d) (NU d s.freehit) (Od s d)))
theorem Td {N : Nat} {r1 r2 r3 r4 r5 r6 r7 r9 r10 r11 r12 : Int} {r8 : Bool} {r0 : ByteArray} {r13 : Rows} {s0 s1 s2 s3 s4 s5 s6 s7 s8 s9 s10 s11 s12 s13 s15 s21 s22 s23 s25 s26 s27 : Int} {s18 s20 : Bool} {s14 s16 s17 s19 s24 : Rows} {d0 d1 d2 d3 d4 d6 d7 d8 d9 d11 : Int} {d5 d10 : Bool} (h : Fit s14 s16 s17 s19 s24) (hN : 2097152 < N) (h13 : r13.length ≤ 1048576) : Dm N [.str r0, .int r1, .int r2, .int r3, .int r4, .int r5, .int r6, .int r7, .bool r8, .int r9, .int r10, .int r11, .int r12, .rows r13, .int s0, .int s1, .int s2, .int s3, .int s4, .int s5, .int s6, .int s7, .int s8, .int s9, .int s10, .int s11, .int s12, .int s13, .rows s14, .int s15, .rows s16, .rows s17, .bool s18, .rows s19, .bool s20, .int s21, .int s22, .int s23, .rows s24, .int s25, .int s26, .int s27, .int d0, .int d1, .int d2, .int d3, .int d4, .bool d5, .int d6, .int d7, .int d8, .int d9, .bool d10, .int d11] = some [.int (GD (⟨r0, r1, r2, r3, r4, r5, r6, r7, r8, r9, r10, r11, r12, r13⟩ : Rul) (⟨s0, s1, s2, s3, s4, s5, s6, s7, s8, s9, s10, s11, s12, s13, s14, s15, s16, s17, s18, s19, s20, s21, s22, s23, s24, s25, s26, s27⟩ : Inn) (⟨d0, d1, d2, d3, d4, d5, d6, d7, d8, d9, d10, d11⟩ : Del))] := by
 show Fk (std (Bs N) N) (xOf _) = _
 generalize hres : (some [.int (GD (⟨r0, r1, r2, r3, r4, r5, r6, r7, r8, r9, r10, r11, r12, r13⟩ : Rul) (⟨s0, s1, s2, s3, s4, s5, s6, s7, s8, s9, s10, s11, s12, s13, s14, s15, s16, s17, s18, s19, s20, s21, s22, s23, s24, s25, s26, s27⟩ : Inn) (⟨d0, d1, d2, d3, d4, d5, d6, d7, d8, d9, d10, d11⟩ : Del))] : Option (List PV)) = RR
 simp only [Fk, J5, K1, Jp, Hk, K6, std, xOf, PXb, PZ h.bt hN, Xe h hN h13, N1, RF hN, Xb h]
 subst hres; simp only [GD]
 cases Cx s14 s12 s13 <;> try rfl
 cases s15 == 0 <;> try rfl
 simp only [PXb]
 generalize N6 (⟨r0, r1, r2, r3, r4, r5, r6, r7, r8, r9, r10, r11, r12, r13⟩ : Rul) (⟨s0, s1, s2, s3, s4, s5, s6, s7, s8, s9, s10, s11, s12, s13, s14, s15, s16, s17, s18, s19, s20, s21, s22, s23, s24, s25, s26, s27⟩ : Inn) = a
 generalize E7 (⟨d0, d1, d2, d3, d4, d5, d6, d7, d8, d9, d10, d11⟩ : Del) = b
 generalize NU (⟨d0, d1, d2, d3, d4, d5, d6, d7, d8, d9, d10, d11⟩ : Del) s20 = c
 generalize Od (⟨s0, s1, s2, s3, s4, s5, s6, s7, s8, s9, s10, s11, s12, s13, s14, s15, s16, s17, s18, s19, s20, s21, s22, s23, s24, s25, s26, s27⟩ : Inn) (⟨d0, d1, d2, d3, d4, d5, d6, d7, d8, d9, d10, d11⟩ : Del) = e
 refine Ao (Ck (len := 4) (fun i => cond (!(atI [[.int a], [.int b], [.int c], [.int e]] i 0 == 0)) (some [.int (atI [[.int a], [.int b], [.int c], [.int e]] i 0)]) none) ?_ ?_ 4 0 N (by omega) (by omega)) ?_
 ·intro self
  rfl
 ·intro i self hi
  simp only [PXb, A0 (show i ≤ 1099511627776 by omega), List.length_cons, List.length_nil, Nat.reduceAdd, Bf hi, A1 hi, DM]
  cases atI [[.int a], [.int b], [.int c], [.int e]] i 0 == 0 <;> rfl
 ·refine (VF _).trans (congrArg (fun z => some [PV.int z]) ?_)
  unfold VS
  simp only [Bi]
  rw [show atI [[.int a], [.int b], [.int c], [.int e]] 0 0 = a from rfl, show atI [[.int a], [.int b], [.int c], [.int e]] (0 + 1) 0 = b from rfl, show atI [[.int a], [.int b], [.int c], [.int e]] (0 + 1 + 1) 0 = c from rfl, show atI [[.int a], [.int b], [.int c], [.int e]] (0 + 1 + 1 + 1) 0 = e from rfl]
  cases a == 0 <;> try rfl
  cases b == 0 <;> try rfl
  cases c == 0 <;> try rfl
  cases e == 0 <;> rfl
theorem QO {s t : Inn} (l : Lens s t) (h : s.Fit) (hw : s.before.length + s.bowlers.length ≤ 1048575) : t.Fit := ⟨l.bt ▸ h.bt, by have := l.bw; omega, by have := l.bf; omega, l.bd ▸ h.bd, l.sb ▸ h.sb⟩
theorem cU (s : Inn) (d : Del) : (Aw s d).bowlers = s.bowlers := by
 unfold Aw
 cases (!(d.runs.tmod 2 == 0) != d.crossed) <;> exact P_c (P := fun x : Inn => x.bowlers = s.bowlers) _ _ _ rfl (P_c (P := fun x : Inn => x.bowlers = s.bowlers) _ _ _ rfl rfl)
theorem cV (s : Inn) (d : Del) : (Aw s d).before = s.before := by
 unfold Aw
 cases (!(d.runs.tmod 2 == 0) != d.crossed) <;> exact P_c (P := fun x : Inn => x.before = s.before) _ _ _ rfl (P_c (P := fun x : Inn => x.before = s.before) _ _ _ rfl rfl)
@[reducible] def Sy (t : Inn) (a b e f g : Int) : Inn := ⟨t.side, t.target, t.overs, a, t.wickets, b, e, f, g, t.pens, t.complete, t.inover, t.striker, t.other, t.batters, t.bowler, t.bowlers, t.before, t.fresh, t.bowled, t.freehit, t.ballage, t.keeper, t.outside, t.subs, t.rev1, t.rev2, t.ending⟩
def Lu (r : Rul) (s : Inn) (d : Del) : Inn × Int :=
  cond (!(GD r s d == 0)) (s, GD r s d)
    (let c := Ad r d
     let t := Aw s d
     let o := B6 r (Sy t (IntKind.i64.wrap (t.runs + Ob c)) (IntKind.i64.wrap (t.wides + c.wides)) (IntKind.i64.wrap (t.noballs + c.noballs)) (IntKind.i64.wrap (t.byes + c.byes)) (IntKind.i64.wrap (t.legbyes + c.legbyes))) c.counts
     let t : Inn := cond o.2 (II o.1) o.1
     ({ t with freehit := cond (d.type == 1) false (cond (d.type == 3 && r.freehit) true o.1.freehit) }, 0))
theorem WO {N : Nat} {r1 r2 r3 r4 r5 r6 r7 r9 r10 r11 r12 : Int} {r8 : Bool} {r0 : ByteArray} {r13 : Rows} {s0 s1 s2 s3 s4 s5 s6 s7 s8 s9 s10 s11 s12 s13 s15 s21 s22 s23 s25 s26 s27 : Int} {s18 s20 : Bool} {s14 s16 s17 s19 s24 : Rows} {d0 d1 d2 d3 d4 d6 d7 d8 d9 d11 : Int} {d5 d10 : Bool} (h : Fit s14 s16 s17 s19 s24) (hw : s17.length + s16.length ≤ 1000000) (hN : 2097152 < N) (hs : r0.size ≤ 1048576) (h13 : r13.length ≤ 1048576) : F3 N [.str r0, .int r1, .int r2, .int r3, .int r4, .int r5, .int r6, .int r7, .bool r8, .int r9, .int r10, .int r11, .int r12, .rows r13, .int s0, .int s1, .int s2, .int s3, .int s4, .int s5, .int s6, .int s7, .int s8, .int s9, .int s10, .int s11, .int s12, .int s13, .rows s14, .int s15, .rows s16, .rows s17, .bool s18, .rows s19, .bool s20, .int s21, .int s22, .int s23, .rows s24, .int s25, .int s26, .int s27, .int d0, .int d1, .int d2, .int d3, .int d4, .bool d5, .int d6, .int d7, .int d8, .int d9, .bool d10, .int d11] = some (A8 (Lu (⟨r0, r1, r2, r3, r4, r5, r6, r7, r8, r9, r10, r11, r12, r13⟩ : Rul) (⟨s0, s1, s2, s3, s4, s5, s6, s7, s8, s9, s10, s11, s12, s13, s14, s15, s16, s17, s18, s19, s20, s21, s22, s23, s24, s25, s26, s27⟩ : Inn) (⟨d0, d1, d2, d3, d4, d5, d6, d7, d8, d9, d10, d11⟩ : Del))) := by
 show IZ (std (Be N) N) (xOf _) = _
 generalize hres : (some (A8 (Lu (⟨r0, r1, r2, r3, r4, r5, r6, r7, r8, r9, r10, r11, r12, r13⟩ : Rul) (⟨s0, s1, s2, s3, s4, s5, s6, s7, s8, s9, s10, s11, s12, s13, s14, s15, s16, s17, s18, s19, s20, s21, s22, s23, s24, s25, s26, s27⟩ : Inn) (⟨d0, d1, d2, d3, d4, d5, d6, d7, d8, d9, d10, d11⟩ : Del))) : Option (List PV)) = RR
 have l1 := YI (⟨s0, s1, s2, s3, s4, s5, s6, s7, s8, s9, s10, s11, s12, s13, s14, s15, s16, s17, s18, s19, s20, s21, s22, s23, s24, s25, s26, s27⟩ : Inn) (⟨d0, d1, d2, d3, d4, d5, d6, d7, d8, d9, d10, d11⟩ : Del)
 have f1 := QO l1 h (by simp only; omega)
 have w1 : (Aw (⟨s0, s1, s2, s3, s4, s5, s6, s7, s8, s9, s10, s11, s12, s13, s14, s15, s16, s17, s18, s19, s20, s21, s22, s23, s24, s25, s26, s27⟩ : Inn) (⟨d0, d1, d2, d3, d4, d5, d6, d7, d8, d9, d10, d11⟩ : Del)).bowlers.length = s16.length := congrArg List.length (cU _ _)
 have w2 : (Aw (⟨s0, s1, s2, s3, s4, s5, s6, s7, s8, s9, s10, s11, s12, s13, s14, s15, s16, s17, s18, s19, s20, s21, s22, s23, s24, s25, s26, s27⟩ : Inn) (⟨d0, d1, d2, d3, d4, d5, d6, d7, d8, d9, d10, d11⟩ : Del)).before.length = s17.length := congrArg List.length (cV _ _)
 have l2 := fun (x : Rul) (c : Bool) (a b e f g : Int) => W5 x (Sy (Aw (⟨s0, s1, s2, s3, s4, s5, s6, s7, s8, s9, s10, s11, s12, s13, s14, s15, s16, s17, s18, s19, s20, s21, s22, s23, s24, s25, s26, s27⟩ : Inn) (⟨d0, d1, d2, d3, d4, d5, d6, d7, d8, d9, d10, d11⟩ : Del)) a b e f g) c
 have f2 := fun (x : Rul) (c : Bool) (a b e f g : Int) => QO (l2 x c a b e f g) f1 (show (Aw (⟨s0, s1, s2, s3, s4, s5, s6, s7, s8, s9, s10, s11, s12, s13, s14, s15, s16, s17, s18, s19, s20, s21, s22, s23, s24, s25, s26, s27⟩ : Inn) (⟨d0, d1, d2, d3, d4, d5, d6, d7, d8, d9, d10, d11⟩ : Del)).before.length + (Aw (⟨s0, s1, s2, s3, s4, s5, s6, s7, s8, s9, s10, s11, s12, s13, s14, s15, s16, s17, s18, s19, s20, s21, s22, s23, s24, s25, s26, s27⟩ : Inn) (⟨d0, d1, d2, d3, d4, d5, d6, d7, d8, d9, d10, d11⟩ : Del)).bowlers.length ≤ 1048575 by omega)
 simp only [IZ, LT, Kr, Ki, Nd, K3, Nj, LG, std, xOf, PXb, PXc, PXn, PXm, Nat.reduceAdd, Int.reduceBEq, Td h hN h13, Bu h, Tl, Yx h, Uq, Cre.ls, ZI f1 (show (Aw (⟨s0, s1, s2, s3, s4, s5, s6, s7, s8, s9, s10, s11, s12, s13, s14, s15, s16, s17, s18, s19, s20, s21, s22, s23, s24, s25, s26, s27⟩ : Inn) (⟨d0, d1, d2, d3, d4, d5, d6, d7, d8, d9, d10, d11⟩ : Del)).bowlers.length ≤ 1048575 by omega) hN hs, dK, VJ (f2 _ _ _ _ _ _ _)]
 subst hres; simp only [Lu, Sy]
 cases GD (⟨r0, r1, r2, r3, r4, r5, r6, r7, r8, r9, r10, r11, r12, r13⟩ : Rul) (⟨s0, s1, s2, s3, s4, s5, s6, s7, s8, s9, s10, s11, s12, s13, s14, s15, s16, s17, s18, s19, s20, s21, s22, s23, s24, s25, s26, s27⟩ : Inn) (⟨d0, d1, d2, d3, d4, d5, d6, d7, d8, d9, d10, d11⟩ : Del) == 0 with
 | false => rfl
 | true =>
  obtain ⟨o, ho⟩ : ∃ o, o = B6 (⟨r0, r1, r2, r3, r4, r5, r6, r7, r8, r9, r10, r11, r12, r13⟩ : Rul) (Sy (Aw (⟨s0, s1, s2, s3, s4, s5, s6, s7, s8, s9, s10, s11, s12, s13, s14, s15, s16, s17, s18, s19, s20, s21, s22, s23, s24, s25, s26, s27⟩ : Inn) (⟨d0, d1, d2, d3, d4, d5, d6, d7, d8, d9, d10, d11⟩ : Del)) (IntKind.i64.wrap ((Aw (⟨s0, s1, s2, s3, s4, s5, s6, s7, s8, s9, s10, s11, s12, s13, s14, s15, s16, s17, s18, s19, s20, s21, s22, s23, s24, s25, s26, s27⟩ : Inn) (⟨d0, d1, d2, d3, d4, d5, d6, d7, d8, d9, d10, d11⟩ : Del)).runs + Ob (Ad (⟨r0, r1, r2, r3, r4, r5, r6, r7, r8, r9, r10, r11, r12, r13⟩ : Rul) (⟨d0, d1, d2, d3, d4, d5, d6, d7, d8, d9, d10, d11⟩ : Del)))) (IntKind.i64.wrap ((Aw (⟨s0, s1, s2, s3, s4, s5, s6, s7, s8, s9, s10, s11, s12, s13, s14, s15, s16, s17, s18, s19, s20, s21, s22, s23, s24, s25, s26, s27⟩ : Inn) (⟨d0, d1, d2, d3, d4, d5, d6, d7, d8, d9, d10, d11⟩ : Del)).wides + (Ad (⟨r0, r1, r2, r3, r4, r5, r6, r7, r8, r9, r10, r11, r12, r13⟩ : Rul) (⟨d0, d1, d2, d3, d4, d5, d6, d7, d8, d9, d10, d11⟩ : Del)).wides)) (IntKind.i64.wrap ((Aw (⟨s0, s1, s2, s3, s4, s5, s6, s7, s8, s9, s10, s11, s12, s13, s14, s15, s16, s17, s18, s19, s20, s21, s22, s23, s24, s25, s26, s27⟩ : Inn) (⟨d0, d1, d2, d3, d4, d5, d6, d7, d8, d9, d10, d11⟩ : Del)).noballs + (Ad (⟨r0, r1, r2, r3, r4, r5, r6, r7, r8, r9, r10, r11, r12, r13⟩ : Rul) (⟨d0, d1, d2, d3, d4, d5, d6, d7, d8, d9, d10, d11⟩ : Del)).noballs)) (IntKind.i64.wrap ((Aw (⟨s0, s1, s2, s3, s4, s5, s6, s7, s8, s9, s10, s11, s12, s13, s14, s15, s16, s17, s18, s19, s20, s21, s22, s23, s24, s25, s26, s27⟩ : Inn) (⟨d0, d1, d2, d3, d4, d5, d6, d7, d8, d9, d10, d11⟩ : Del)).byes + (Ad (⟨r0, r1, r2, r3, r4, r5, r6, r7, r8, r9, r10, r11, r12, r13⟩ : Rul) (⟨d0, d1, d2, d3, d4, d5, d6, d7, d8, d9, d10, d11⟩ : Del)).byes)) (IntKind.i64.wrap ((Aw (⟨s0, s1, s2, s3, s4, s5, s6, s7, s8, s9, s10, s11, s12, s13, s14, s15, s16, s17, s18, s19, s20, s21, s22, s23, s24, s25, s26, s27⟩ : Inn) (⟨d0, d1, d2, d3, d4, d5, d6, d7, d8, d9, d10, d11⟩ : Del)).legbyes + (Ad (⟨r0, r1, r2, r3, r4, r5, r6, r7, r8, r9, r10, r11, r12, r13⟩ : Rul) (⟨d0, d1, d2, d3, d4, d5, d6, d7, d8, d9, d10, d11⟩ : Del)).legbyes))) (Ad (⟨r0, r1, r2, r3, r4, r5, r6, r7, r8, r9, r10, r11, r12, r13⟩ : Rul) (⟨d0, d1, d2, d3, d4, d5, d6, d7, d8, d9, d10, d11⟩ : Del)).counts := ⟨_, rfl⟩
  simp only [Sy, Ob] at ho ⊢
  simp only [← ho]
  obtain ⟨o1, o2⟩ := o
  cases o2 <;> cases d0 == 1 <;> cases d0 == 3 <;> cases r8 <;> rfl
theorem Xt (r : Rul) (s : Inn) (b : Bool) (a c d e f : Int) : B6 r (Sy s a c d e f) b = (Sy (B6 r s b).1 a c d e f, (B6 r s b).2) := by
 unfold B6 Sy
 simp only
 cases (!inR s.bowler s.bowled.length || !(Ap r == 0)) with
 | true => rfl
 | false =>
  simp only [cond_false]
  cases iLt (cond b (inc s.inover) s.inover) r.balls <;> rfl
def D5 (r : Rul) (s : Inn) (side : Int) : Inn × Int := cond (!(side == s.side)) (s, 2) (cond (!(r.overs == 0)) (s, 20) ({ s with ending := 4 }, 0))
theorem Ti {N : Nat} {r1 r2 r3 r4 r5 r6 r7 r9 r10 r11 r12 : Int} {r8 : Bool} {r0 : ByteArray} {r13 : Rows} {s0 s1 s2 s3 s4 s5 s6 s7 s8 s9 s10 s11 s12 s13 s15 s21 s22 s23 s25 s26 s27 : Int} {s18 s20 : Bool} {s14 s16 s17 s19 s24 : Rows} {e0 e1 e2 e3 e5 e6 e7 e8 e9 e10 e11 e13 e14 e15 e16 e18 : Int} {e4 e12 e17 : Bool} (h : Fit s14 s16 s17 s19 s24) : Da N [.str r0, .int r1, .int r2, .int r3, .int r4, .int r5, .int r6, .int r7, .bool r8, .int r9, .int r10, .int r11, .int r12, .rows r13, .int s0, .int s1, .int s2, .int s3, .int s4, .int s5, .int s6, .int s7, .int s8, .int s9, .int s10, .int s11, .int s12, .int s13, .rows s14, .int s15, .rows s16, .rows s17, .bool s18, .rows s19, .bool s20, .int s21, .int s22, .int s23, .rows s24, .int s25, .int s26, .int s27, .int e0, .int e1, .int e2, .int e3, .bool e4, .int e5, .int e6, .int e7, .int e8, .int e9, .int e10, .int e11, .bool e12, .int e13, .int e14, .int e15, .int e16, .bool e17, .int e18] = some (A8 (D5 (⟨r0, r1, r2, r3, r4, r5, r6, r7, r8, r9, r10, r11, r12, r13⟩ : Rul) (⟨s0, s1, s2, s3, s4, s5, s6, s7, s8, s9, s10, s11, s12, s13, s14, s15, s16, s17, s18, s19, s20, s21, s22, s23, s24, s25, s26, s27⟩ : Inn) e1)) := by
 show Fh (std (HD N) N) (xOf _) = _
 generalize hres : (some (A8 (D5 (⟨r0, r1, r2, r3, r4, r5, r6, r7, r8, r9, r10, r11, r12, r13⟩ : Rul) (⟨s0, s1, s2, s3, s4, s5, s6, s7, s8, s9, s10, s11, s12, s13, s14, s15, s16, s17, s18, s19, s20, s21, s22, s23, s24, s25, s26, s27⟩ : Inn) e1)) : Option (List PV)) = RR
 simp only [Fh, KE, std, xOf, PXb, PXc, PXn, PXm, Nat.reduceAdd, Int.reduceBEq, Bu h]
 subst hres; simp only [D5]
 cases e1 == s0 <;> cases r3 == 0 <;> rfl
def Mf (s : Inn) : Inn := { s with runs := IntKind.i64.wrap (s.runs + 5), pens := IntKind.i64.wrap (s.pens + 5) }
theorem NM {N : Nat} {s0 s1 s2 s3 s4 s5 s6 s7 s8 s9 s10 s11 s12 s13 s15 s21 s22 s23 s25 s26 s27 : Int} {s18 s20 : Bool} {s14 s16 s17 s19 s24 : Rows} (h : Fit s14 s16 s17 s19 s24) : Bq N [.int s0, .int s1, .int s2, .int s3, .int s4, .int s5, .int s6, .int s7, .int s8, .int s9, .int s10, .int s11, .int s12, .int s13, .rows s14, .int s15, .rows s16, .rows s17, .bool s18, .rows s19, .bool s20, .int s21, .int s22, .int s23, .rows s24, .int s25, .int s26, .int s27] = some (Mf (⟨s0, s1, s2, s3, s4, s5, s6, s7, s8, s9, s10, s11, s12, s13, s14, s15, s16, s17, s18, s19, s20, s21, s22, s23, s24, s25, s26, s27⟩ : Inn)).ls := by
 show Fd (std (HL N) N) (xOf _) = _
 generalize hres : (some (Mf (⟨s0, s1, s2, s3, s4, s5, s6, s7, s8, s9, s10, s11, s12, s13, s14, s15, s16, s17, s18, s19, s20, s21, s22, s23, s24, s25, s26, s27⟩ : Inn)).ls : Option (List PV)) = RR
 simp only [Fd, J8, std, xOf, PXb, PXc, PXn, PXm, Nat.reduceAdd, Int.reduceBEq, Bu h]
 subst hres; simp only [Mf]
 rfl
def EM (s : Inn) (side runs : Int) : Inn × Int :=
 cond (!(runs == 5)) (s, 23) (cond (side == s.side) (Mf s, 0) ({ s with target := cond (iLt 0 s.target) (IntKind.i64.wrap (s.target + 5)) s.target }, 0))
theorem TU {N : Nat} {s0 s1 s2 s3 s4 s5 s6 s7 s8 s9 s10 s11 s12 s13 s15 s21 s22 s23 s25 s26 s27 : Int} {s18 s20 : Bool} {s14 s16 s17 s19 s24 : Rows} {e0 e1 e2 e3 e5 e6 e7 e8 e9 e10 e11 e13 e14 e15 e16 e18 : Int} {e4 e12 e17 : Bool} (h : Fit s14 s16 s17 s19 s24) : Dg N [.int s0, .int s1, .int s2, .int s3, .int s4, .int s5, .int s6, .int s7, .int s8, .int s9, .int s10, .int s11, .int s12, .int s13, .rows s14, .int s15, .rows s16, .rows s17, .bool s18, .rows s19, .bool s20, .int s21, .int s22, .int s23, .rows s24, .int s25, .int s26, .int s27, .int e0, .int e1, .int e2, .int e3, .bool e4, .int e5, .int e6, .int e7, .int e8, .int e9, .int e10, .int e11, .bool e12, .int e13, .int e14, .int e15, .int e16, .bool e17, .int e18] = some (A8 (EM (⟨s0, s1, s2, s3, s4, s5, s6, s7, s8, s9, s10, s11, s12, s13, s14, s15, s16, s17, s18, s19, s20, s21, s22, s23, s24, s25, s26, s27⟩ : Inn) e1 e5)) := by
 show Fa (std (ES N) N) (xOf _) = _
 generalize hres : (some (A8 (EM (⟨s0, s1, s2, s3, s4, s5, s6, s7, s8, s9, s10, s11, s12, s13, s14, s15, s16, s17, s18, s19, s20, s21, s22, s23, s24, s25, s26, s27⟩ : Inn) e1 e5)) : Option (List PV)) = RR
 simp only [Fa, J9, Iw, std, xOf, PXb, PXc, PXn, PXm, Nat.reduceAdd, Int.reduceBEq, Bu h, NM h]
 subst hres; simp only [EM]
 cases e5 == 5 <;> cases e1 == s0 <;> cases iLt 0 s1 <;> rfl
def Ej (r : Rul) (s : Inn) (side : Int) (yes : Bool) : Inn × Int :=
 cond (!s.fresh || iLe r.reviews (cond (side == 2) s.rev2 s.rev1)) (s, 24) (cond (!yes) ({ s with rev1 := cond (side == 1) (inc s.rev1) s.rev1, rev2 := cond (side == 2) (inc s.rev2) s.rev2 }, 0) (s, 0))
theorem wr1 : IntKind.i64.wrap (1 - 1) = 0 := rfl
theorem wr2 : IntKind.i64.wrap (2 - 1) = 1 := rfl
theorem Yq : iIn 0 2 = true := rfl
theorem YM : iIn 1 2 = true := rfl
theorem UV {N : Nat} {r1 r2 r3 r4 r5 r6 r7 r9 r10 r11 r12 : Int} {r8 : Bool} {r0 : ByteArray} {r13 : Rows} {s0 s1 s2 s3 s4 s5 s6 s7 s8 s9 s10 s11 s12 s13 s15 s21 s22 s23 s25 s26 s27 : Int} {s18 s20 : Bool} {s14 s16 s17 s19 s24 : Rows} {e0 e1 e2 e3 e5 e6 e7 e8 e9 e10 e11 e13 e14 e15 e16 e18 : Int} {e4 e12 e17 : Bool} (h : Fit s14 s16 s17 s19 s24) (he : e1 = 1 ∨ e1 = 2) : Dz N [.str r0, .int r1, .int r2, .int r3, .int r4, .int r5, .int r6, .int r7, .bool r8, .int r9, .int r10, .int r11, .int r12, .rows r13, .int s0, .int s1, .int s2, .int s3, .int s4, .int s5, .int s6, .int s7, .int s8, .int s9, .int s10, .int s11, .int s12, .int s13, .rows s14, .int s15, .rows s16, .rows s17, .bool s18, .rows s19, .bool s20, .int s21, .int s22, .int s23, .rows s24, .int s25, .int s26, .int s27, .int e0, .int e1, .int e2, .int e3, .bool e4, .int e5, .int e6, .int e7, .int e8, .int e9, .int e10, .int e11, .bool e12, .int e13, .int e14, .int e15, .int e16, .bool e17, .int e18] = some (A8 (Ej (⟨r0, r1, r2, r3, r4, r5, r6, r7, r8, r9, r10, r11, r12, r13⟩ : Rul) (⟨s0, s1, s2, s3, s4, s5, s6, s7, s8, s9, s10, s11, s12, s13, s14, s15, s16, s17, s18, s19, s20, s21, s22, s23, s24, s25, s26, s27⟩ : Inn) e1 e4)) := by
 show EF (std (Hm N) N) (xOf _) = _
 generalize hres : (some (A8 (Ej (⟨r0, r1, r2, r3, r4, r5, r6, r7, r8, r9, r10, r11, r12, r13⟩ : Rul) (⟨s0, s1, s2, s3, s4, s5, s6, s7, s8, s9, s10, s11, s12, s13, s14, s15, s16, s17, s18, s19, s20, s21, s22, s23, s24, s25, s26, s27⟩ : Inn) e1 e4)) : Option (List PV)) = RR
 rcases he with he | he <;> subst he
 ·simp only [EF, Eu, std, xOf, PXb, PXc, PXn, PXm, Nat.reduceAdd, Int.reduceBEq, Bu h, wr1, wr2, Yq, YM]
  subst hres; simp only [Ej, Int.reduceBEq, beq_self_eq_true, cond_true, cond_false]
  cases s18 <;> cases e4 <;> first | rfl | (cases iLe r11 s25 <;> rfl)
 ·simp only [EF, Eu, std, xOf, PXb, PXc, PXn, PXm, Nat.reduceAdd, Int.reduceBEq, Bu h, wr1, wr2, Yq, YM]
  subst hres; simp only [Ej, Int.reduceBEq, beq_self_eq_true, cond_true, cond_false]
  cases s18 <;> cases e4 <;> first | rfl | (cases iLe r11 s26 <;> rfl)
theorem VU {N : Nat} {r1 r2 r3 r4 r5 r6 r7 r9 r10 r11 r12 : Int} {r8 : Bool} {r0 : ByteArray} {r13 : Rows} {s0 s1 s2 s3 s4 s5 s6 s7 s8 s9 s10 s11 s12 s13 s15 s21 s22 s23 s25 s26 s27 : Int} {s18 s20 : Bool} {s14 s16 s17 s19 s24 : Rows}  : Ep N [.str r0, .int r1, .int r2, .int r3, .int r4, .int r5, .int r6, .int r7, .bool r8, .int r9, .int r10, .int r11, .int r12, .rows r13, .int s0, .int s1, .int s2, .int s3, .int s4, .int s5, .int s6, .int s7, .int s8, .int s9, .int s10, .int s11, .int s12, .int s13, .rows s14, .int s15, .rows s16, .rows s17, .bool s18, .rows s19, .bool s20, .int s21, .int s22, .int s23, .rows s24, .int s25, .int s26, .int s27] = some [.int (VP r4 s10 s11)] := by
 rfl
def Fy (r : Rul) (s : Inn) (runs overs : Int) : Inn × Int :=
  cond (r.overs == 0 || (runs == 0 && overs == 0)) (s, 25) (cond (iLt 0 runs && (s.target == 0 || iLe runs s.runs)) (s, 25)
    (cond (iLt 0 overs && (iLt r.overs overs || iLt (IntKind.i64.wrap (overs * r.balls)) (VP r.balls s.complete s.inover))) (s, 25)
      ({ s with target := cond (iLt 0 runs) runs s.target, overs := cond (iLt 0 overs) overs s.overs }, 0)))
theorem UU {N : Nat} {r1 r2 r3 r4 r5 r6 r7 r9 r10 r11 r12 : Int} {r8 : Bool} {r0 : ByteArray} {r13 : Rows} {s0 s1 s2 s3 s4 s5 s6 s7 s8 s9 s10 s11 s12 s13 s15 s21 s22 s23 s25 s26 s27 : Int} {s18 s20 : Bool} {s14 s16 s17 s19 s24 : Rows} {e0 e1 e2 e3 e5 e6 e7 e8 e9 e10 e11 e13 e14 e15 e16 e18 : Int} {e4 e12 e17 : Bool} (h : Fit s14 s16 s17 s19 s24) : D4 N [.str r0, .int r1, .int r2, .int r3, .int r4, .int r5, .int r6, .int r7, .bool r8, .int r9, .int r10, .int r11, .int r12, .rows r13, .int s0, .int s1, .int s2, .int s3, .int s4, .int s5, .int s6, .int s7, .int s8, .int s9, .int s10, .int s11, .int s12, .int s13, .rows s14, .int s15, .rows s16, .rows s17, .bool s18, .rows s19, .bool s20, .int s21, .int s22, .int s23, .rows s24, .int s25, .int s26, .int s27, .int e0, .int e1, .int e2, .int e3, .bool e4, .int e5, .int e6, .int e7, .int e8, .int e9, .int e10, .int e11, .bool e12, .int e13, .int e14, .int e15, .int e16, .bool e17, .int e18] = some (A8 (Fy (⟨r0, r1, r2, r3, r4, r5, r6, r7, r8, r9, r10, r11, r12, r13⟩ : Rul) (⟨s0, s1, s2, s3, s4, s5, s6, s7, s8, s9, s10, s11, s12, s13, s14, s15, s16, s17, s18, s19, s20, s21, s22, s23, s24, s25, s26, s27⟩ : Inn) e5 e6)) := by
 show GX (std (E0 N) N) (xOf _) = _
 generalize hres : (some (A8 (Fy (⟨r0, r1, r2, r3, r4, r5, r6, r7, r8, r9, r10, r11, r12, r13⟩ : Rul) (⟨s0, s1, s2, s3, s4, s5, s6, s7, s8, s9, s10, s11, s12, s13, s14, s15, s16, s17, s18, s19, s20, s21, s22, s23, s24, s25, s26, s27⟩ : Inn) e5 e6)) : Option (List PV)) = RR
 simp only [GX, KM, KN, std, xOf, PXb, PXc, PXn, PXm, Nat.reduceAdd, Int.reduceBEq, Bu h, VU]
 subst hres; simp only [Fy]
 cases (r3 == 0 || e5 == 0 && e6 == 0) <;> try rfl
 cases (iLt 0 e5 && (s1 == 0 || iLe e5 s3)) <;> try rfl
 cases iLt 0 e6 <;> cases iLt r3 e6 <;> try rfl
 simp only [PXb, PXc, PXn, PXm, Nat.reduceAdd, Int.reduceBEq]
 cases iLt (IntKind.i64.wrap (e6 * r4)) (VP r4 s10 s11) <;> rfl
end Go.Px
end
section
namespace Go.Px
set_option maxRecDepth 100000
def CS (r : Rul) (s : Inn) (e : Ev) : Inn × Int :=
  cond (e.kind == 2) (KS s e.player e.other) (cond (e.kind == 3) (Kp r s e.player) (cond (e.kind == 4) (Lu r s e.ball)
    (cond (e.kind == 5) (cond e.yes (DY s e.player) (Gz s e.player)) (cond (e.kind == 6) (DH s e.player e.yes) (cond (e.kind == 7) (D2 s e.runs)
      (cond (e.kind == 8) (GH s e.player) (cond (e.kind == 9) (H0 s e.player e.yes) (cond (e.kind == 10) (EL r s) (cond (e.kind == 11) (D5 r s e.side)
        (cond (e.kind == 13) (EM s e.side e.runs) (cond (e.kind == 14) (Ej r s e.side e.yes) (Fy r s e.runs e.overs))))))))))))
theorem Nr {e : Ev} (h : (evS e == 0) = true) : (iLt e.kind 1 || iLt 16 e.kind) = false := by
 unfold evS at h
 cases hk : (iLt e.kind 1 || iLt 16 e.kind) with
 | false => rfl
 | true => rw [hk] at h; cases h
theorem fN {e : Ev} (h : (evS e == 0) = true) (hk : e.kind = 14) : e.side = 1 ∨ e.side = 2 := by
 have h0 := Nr h
 unfold evS at h
 rw [h0] at h
 cases h1 : WE e with
 | true => rw [h1] at h; cases h
 | false =>
  cases h2 : Q0 e with
  | true => rw [h1, h2] at h; cases h
  | false =>
   unfold Q0 at h2
   rw [Bool.or_eq_false_iff] at h2
   have h3 := h2.1
   rw [hk, show uS 14 = true from rfl, Bool.and_true] at h3
   simp only [btw, iLe, Bool.not_eq_false', Bool.and_eq_true, decide_eq_true_eq] at h3
   omega
set_option maxHeartbeats 4000000 in
theorem TZ {N : Nat} {r1 r2 r3 r4 r5 r6 r7 r9 r10 r11 r12 : Int} {r8 : Bool} {r0 : ByteArray} {r13 : Rows} {s0 s1 s2 s3 s4 s5 s6 s7 s8 s9 s10 s11 s12 s13 s15 s21 s22 s23 s25 s26 s27 : Int} {s18 s20 : Bool} {s14 s16 s17 s19 s24 : Rows} {e0 e1 e2 e3 e5 e6 e7 e8 e9 e10 e11 e13 e14 e15 e16 e18 : Int} {e4 e12 e17 : Bool} (h : Fit s14 s16 s17 s19 s24) (hw : s17.length + s16.length ≤ 1000000) (hN : 2097152 < N) (hs : r0.size ≤ 1048576) (h13 : r13.length ≤ 1048576) (he : (evS (⟨e0, e1, e2, e3, e4, e5, e6, ⟨e7, e8, e9, e10, e11, e12, e13, e14, e15, e16, e17, e18⟩⟩ : Ev) == 0) = true) : Dk N [.str r0, .int r1, .int r2, .int r3, .int r4, .int r5, .int r6, .int r7, .bool r8, .int r9, .int r10, .int r11, .int r12, .rows r13, .int s0, .int s1, .int s2, .int s3, .int s4, .int s5, .int s6, .int s7, .int s8, .int s9, .int s10, .int s11, .int s12, .int s13, .rows s14, .int s15, .rows s16, .rows s17, .bool s18, .rows s19, .bool s20, .int s21, .int s22, .int s23, .rows s24, .int s25, .int s26, .int s27, .int e0, .int e1, .int e2, .int e3, .bool e4, .int e5, .int e6, .int e7, .int e8, .int e9, .int e10, .int e11, .bool e12, .int e13, .int e14, .int e15, .int e16, .bool e17, .int e18] = some (A8 (CS (⟨r0, r1, r2, r3, r4, r5, r6, r7, r8, r9, r10, r11, r12, r13⟩ : Rul) (⟨s0, s1, s2, s3, s4, s5, s6, s7, s8, s9, s10, s11, s12, s13, s14, s15, s16, s17, s18, s19, s20, s21, s22, s23, s24, s25, s26, s27⟩ : Inn) (⟨e0, e1, e2, e3, e4, e5, e6, ⟨e7, e8, e9, e10, e11, e12, e13, e14, e15, e16, e17, e18⟩⟩ : Ev))) := by
  show De (std (AW N) N) (xOf _) = _
  generalize hres : (some (A8 (CS (⟨r0, r1, r2, r3, r4, r5, r6, r7, r8, r9, r10, r11, r12, r13⟩ : Rul) (⟨s0, s1, s2, s3, s4, s5, s6, s7, s8, s9, s10, s11, s12, s13, s14, s15, s16, s17, s18, s19, s20, s21, s22, s23, s24, s25, s26, s27⟩ : Inn) (⟨e0, e1, e2, e3, e4, e5, e6, ⟨e7, e8, e9, e10, e11, e12, e13, e14, e15, e16, e17, e18⟩⟩ : Ev))) : Option (List PV)) = RR
  have hsd : e0 = 14 → e1 = 1 ∨ e1 = 2 := fN (e := (⟨e0, e1, e2, e3, e4, e5, e6, ⟨e7, e8, e9, e10, e11, e12, e13, e14, e15, e16, e17, e18⟩⟩ : Ev)) he
  rcases QP (Nr he) with hk | hk | hk | hk | hk | hk | hk | hk | hk | hk | hk | hk | hk | hk | hk | hk <;> simp only at hk <;> subst hk <;> clear he
  all_goals (first
    | (have hsd := hsd rfl
       simp only [De, FX, Fu, Es, EJ, FF, EY, EZ, E1, Di, EX, Dv, Dw, EA, D6, std, xOf, PXb, PXc, PXn, PXm, Nat.reduceAdd, Int.reduceBEq, UV h hsd]
       subst hres
       rfl)
    | (simp only [De, FX, Fu, Es, EJ, FF, EY, EZ, E1, Di, EX, Dv, Dw, EA, D6, std, xOf, PXb, PXc, PXn, PXm, Nat.reduceAdd, Int.reduceBEq, XR h hN, Y9 h hN hs, WO h hw hN hs h13, Ug h hN, WK h hN, Vj h hN, WB h, WZ h, SB h, VG h hN hs, Ti h, TU h, UU h]
       subst hres
       first
       | rfl
       | (cases e4 <;> rfl)))
end Go.Px
end
section
namespace Go.Px
set_option maxRecDepth 100000
theorem Lens.of {s t : Inn} (h1 : t.batters.length = s.batters.length) (h2 : t.bowled.length = s.bowled.length) (h3 : t.subs.length = s.subs.length) (h4 : t.bowlers = s.bowlers) (h5 : t.before = s.before) : Lens s t := ⟨h1, h2, h3, by rw [h4]; omega, by rw [h5]; omega⟩
theorem L_c {s : Inn} (b : Bool) (x y : Inn × Int) (hx : Lens s x.1) (hy : Lens s y.1) : Lens s (cond b x y).1 := by cases b <;> assumption
theorem cT (s : Inn) (p q : Int) : Lens s (KS s p q).1 := by
 unfold KS
 exact L_c _ _ _ (Lens.refl s) (L_c _ _ _ (Lens.refl s) (L_c _ _ _ (Lens.refl s) (Lens.of (by simp [BU]) rfl rfl rfl rfl)))
theorem cz (r : Rul) (s : Inn) (p : Int) : Lens s (Kp r s p).1 := by
 unfold Kp
 exact P_c (P := fun x : Inn => Lens s x) _ _ _ (Lens.of rfl rfl rfl rfl rfl) (Lens.refl s)
theorem bm (r : Rul) (s : Inn) (d : Del) : Lens s (Lu r s d).1 := by
 unfold Lu
 refine L_c _ _ _ (Lens.refl s) ?_
 have l1 := YI s d
 have w1 := cU s d
 have w2 := cV s d
 simp only [Xt]
 have l2 := W5 r (Aw s d) (Ad r d).counts
 cases (B6 r (Aw s d) (Ad r d).counts).2
 ·exact ⟨l2.bt.trans l1.bt, l2.bd.trans l1.bd, l2.sb.trans l1.sb, by have := l2.bw; rw [w1] at this; exact this, by have := l2.bf; rw [w1, w2] at this; exact this⟩
 ·exact ⟨l2.bt.trans l1.bt, l2.bd.trans l1.bd, l2.sb.trans l1.sb, by have := l2.bw; rw [w1] at this; exact this, by have := l2.bf; rw [w1, w2] at this; exact this⟩
theorem Yl (s : Inn) (p : Int) : Lens s (DY s p).1 := by
 unfold DY
 exact L_c _ _ _ (Lens.of (by simp [BU]) rfl rfl rfl rfl) (Lens.refl s)
theorem bK (s : Inn) (p : Int) : Lens s (Gz s p).1 := by
 unfold Gz
 exact L_c _ _ _ (Lens.of (by simp [BU]) rfl rfl rfl rfl) (Lens.refl s)
theorem Zr (s : Inn) (p : Int) (b : Bool) : Lens s (DH s p b).1 := by
 unfold DH
 exact L_c _ _ _ (Lens.refl s) (L_c _ _ _ (Lens.refl s) (L_c _ _ _ (Lens.refl s) (L_c _ _ _ (Lens.refl s) (Lens.of (by simp [BU]) rfl rfl rfl rfl))))
theorem Ym (s : Inn) (n : Int) : Lens s (D2 s n).1 := by
 unfold D2
 exact L_c _ _ _ (Lens.refl s) (Lens.of rfl rfl rfl rfl rfl)
theorem Zo (s : Inn) (n : Int) : Lens s (GH s n).1 := by
 unfold GH
 exact L_c _ _ _ (Lens.refl s) (L_c _ _ _ (Lens.refl s) (L_c _ _ _ (Lens.refl s) (Lens.of rfl rfl rfl rfl rfl)))
theorem bQ (s : Inn) (n : Int) (b : Bool) : Lens s (H0 s n b).1 := by
 unfold H0
 exact L_c _ _ _ (Lens.refl s) (L_c _ _ _ (Lens.refl s) (Lens.of rfl rfl (by simp [Yv]) rfl rfl))
theorem Yh (r : Rul) (s : Inn) : Lens s (EL r s).1 := by
 unfold EL
 exact L_c _ _ _ (Lens.refl s) (Lens.of rfl rfl rfl rfl rfl)
theorem ZC (r : Rul) (s : Inn) (n : Int) : Lens s (D5 r s n).1 := by
 unfold D5
 exact L_c _ _ _ (Lens.refl s) (L_c _ _ _ (Lens.refl s) (Lens.of rfl rfl rfl rfl rfl))
theorem YL (s : Inn) (n m : Int) : Lens s (EM s n m).1 := by
 unfold EM
 exact L_c _ _ _ (Lens.refl s) (L_c _ _ _ (Lens.of rfl rfl rfl rfl rfl) (Lens.of rfl rfl rfl rfl rfl))
theorem Zc (r : Rul) (s : Inn) (n : Int) (b : Bool) : Lens s (Ej r s n b).1 := by
 unfold Ej
 exact L_c _ _ _ (Lens.refl s) (L_c _ _ _ (Lens.of rfl rfl rfl rfl rfl) (Lens.refl s))
theorem ZW (r : Rul) (s : Inn) (n m : Int) : Lens s (Fy r s n m).1 := by
 unfold Fy
 exact L_c _ _ _ (Lens.refl s) (L_c _ _ _ (Lens.refl s) (L_c _ _ _ (Lens.refl s) (Lens.of rfl rfl rfl rfl rfl)))
theorem Sk (r : Rul) (s : Inn) (e : Ev) : Lens s (CS r s e).1 := by
  unfold CS
  exact L_c _ _ _ (cT ..) (L_c _ _ _ (cz ..) (L_c _ _ _ (bm ..) (L_c _ _ _ (L_c _ _ _ (Yl ..) (bK ..)) (L_c _ _ _ (Zr ..) (L_c _ _ _ (Ym ..)
    (L_c _ _ _ (Zo ..) (L_c _ _ _ (bQ ..) (L_c _ _ _ (Yh ..) (L_c _ _ _ (ZC ..) (L_c _ _ _ (YL ..) (L_c _ _ _ (Zc ..) (ZW ..))))))))))))
def FA (r : Rul) (s : Inn) : Bool := Qb r.name r.side r.innings r.overs r.balls r.quota r.wide r.noball r.newball r.followon r.reviews r.outside r.power s.batters s.bowlers s.before s.bowled s.subs s.side s.target s.overs s.runs s.wickets s.wides s.noballs s.byes s.legbyes s.pens s.complete s.inover s.striker s.other s.bowler s.ballage s.keeper s.outside s.rev1 s.rev2 s.ending
def Yk (r : Rul) (s : Inn) : Int := bT (FA r s) s.batters s.striker s.other s.target s.overs s.runs s.complete
theorem O0 {N : Nat} {r1 r2 r3 r4 r5 r6 r7 r9 r10 r11 r12 : Int} {r8 : Bool} {r0 : ByteArray} {r13 : Rows} {s0 s1 s2 s3 s4 s5 s6 s7 s8 s9 s10 s11 s12 s13 s15 s21 s22 s23 s25 s26 s27 : Int} {s18 s20 : Bool} {s14 s16 s17 s19 s24 : Rows} (h : Fit s14 s16 s17 s19 s24) (hN : 2097152 < N) (hs : r0.size ≤ 1048576) : A9 N [.str r0, .int r1, .int r2, .int r3, .int r4, .int r5, .int r6, .int r7, .bool r8, .int r9, .int r10, .int r11, .int r12, .rows r13, .int s0, .int s1, .int s2, .int s3, .int s4, .int s5, .int s6, .int s7, .int s8, .int s9, .int s10, .int s11, .int s12, .int s13, .rows s14, .int s15, .rows s16, .rows s17, .bool s18, .rows s19, .bool s20, .int s21, .int s22, .int s23, .rows s24, .int s25, .int s26, .int s27] = some [.bool (FA (⟨r0, r1, r2, r3, r4, r5, r6, r7, r8, r9, r10, r11, r12, r13⟩ : Rul) (⟨s0, s1, s2, s3, s4, s5, s6, s7, s8, s9, s10, s11, s12, s13, s14, s15, s16, s17, s18, s19, s20, s21, s22, s23, s24, s25, s26, s27⟩ : Inn))] := by
 exact N9 N _ _ _ _ _ _ _ _ _ _ _ _ _ _ _ _ _ _ _ _ _ _ _ _ _ _ _ _ _ _ _ _ _ _ _ _ _ _ _ _ _ _ hN hs h.bt h.bw h.bf h.bd
theorem Ur {N : Nat} {r1 r2 r3 r4 r5 r6 r7 r9 r10 r11 r12 : Int} {r8 : Bool} {r0 : ByteArray} {r13 : Rows} {s0 s1 s2 s3 s4 s5 s6 s7 s8 s9 s10 s11 s12 s13 s15 s21 s22 s23 s25 s26 s27 : Int} {s18 s20 : Bool} {s14 s16 s17 s19 s24 : Rows} (h : Fit s14 s16 s17 s19 s24) (hN : 2097152 < N) (hs : r0.size ≤ 1048576) : Cy N [.str r0, .int r1, .int r2, .int r3, .int r4, .int r5, .int r6, .int r7, .bool r8, .int r9, .int r10, .int r11, .int r12, .rows r13, .int s0, .int s1, .int s2, .int s3, .int s4, .int s5, .int s6, .int s7, .int s8, .int s9, .int s10, .int s11, .int s12, .int s13, .rows s14, .int s15, .rows s16, .rows s17, .bool s18, .rows s19, .bool s20, .int s21, .int s22, .int s23, .rows s24, .int s25, .int s26, .int s27] = some [.int (Yk (⟨r0, r1, r2, r3, r4, r5, r6, r7, r8, r9, r10, r11, r12, r13⟩ : Rul) (⟨s0, s1, s2, s3, s4, s5, s6, s7, s8, s9, s10, s11, s12, s13, s14, s15, s16, s17, s18, s19, s20, s21, s22, s23, s24, s25, s26, s27⟩ : Inn))] := by
 exact TX N _ _ _ _ _ _ _ _ _ _ _ _ _ _ _ _ _ _ _ _ _ _ _ _ _ _ _ _ _ _ _ _ _ _ _ _ _ _ _ _ _ _ hN hs h.bt h.bw h.bf h.bd
def U7 (t : Inn) (b : Bool) : Inn := ⟨t.side, t.target, t.overs, t.runs, t.wickets, t.wides, t.noballs, t.byes, t.legbyes, t.pens, t.complete, t.inover, t.striker, t.other, t.batters, t.bowler, t.bowlers, t.before, b, t.bowled, t.freehit, t.ballage, t.keeper, t.outside, t.subs, t.rev1, t.rev2, t.ending⟩
def Qa (r : Rul) (t : Inn) (b : Bool) : Inn := { U7 t b with ending := cond (t.ending == 0) (Yk r (U7 t b)) t.ending }
def PC (s : Inn) (e : Ev) : Bool := e.kind == 1 || e.kind == 12 || e.kind == 16 || (!B3 s.batters && !(e.kind == 2))
def Av (r : Rul) (s : Inn) (e : Ev) : Inn × Int :=
  cond (!FA r s || !(evS e == 0)) (s, 1) (cond (!(s.ending == 0)) (s, 26) (cond (PC s e) (s, 1)
    (cond (!((CS r s e).2 == 0)) (s, (CS r s e).2) (Qa r (CS r s e).1 (e.kind == 4), 0))))
set_option maxHeartbeats 4000000 in
theorem LJ {N : Nat} {r1 r2 r3 r4 r5 r6 r7 r9 r10 r11 r12 : Int} {r8 : Bool} {r0 : ByteArray} {r13 : Rows} {s0 s1 s2 s3 s4 s5 s6 s7 s8 s9 s10 s11 s12 s13 s15 s21 s22 s23 s25 s26 s27 : Int} {s18 s20 : Bool} {s14 s16 s17 s19 s24 : Rows} {e0 e1 e2 e3 e5 e6 e7 e8 e9 e10 e11 e13 e14 e15 e16 e18 : Int} {e4 e12 e17 : Bool} (h : Fit s14 s16 s17 s19 s24) (hw : s17.length + s16.length ≤ 1000000) (hN : 2097152 < N) (hs : r0.size ≤ 1048576) (h13 : r13.length ≤ 1048576) : GC N [.str r0, .int r1, .int r2, .int r3, .int r4, .int r5, .int r6, .int r7, .bool r8, .int r9, .int r10, .int r11, .int r12, .rows r13, .int s0, .int s1, .int s2, .int s3, .int s4, .int s5, .int s6, .int s7, .int s8, .int s9, .int s10, .int s11, .int s12, .int s13, .rows s14, .int s15, .rows s16, .rows s17, .bool s18, .rows s19, .bool s20, .int s21, .int s22, .int s23, .rows s24, .int s25, .int s26, .int s27, .int e0, .int e1, .int e2, .int e3, .bool e4, .int e5, .int e6, .int e7, .int e8, .int e9, .int e10, .int e11, .bool e12, .int e13, .int e14, .int e15, .int e16, .bool e17, .int e18] = some (A8 (Av (⟨r0, r1, r2, r3, r4, r5, r6, r7, r8, r9, r10, r11, r12, r13⟩ : Rul) (⟨s0, s1, s2, s3, s4, s5, s6, s7, s8, s9, s10, s11, s12, s13, s14, s15, s16, s17, s18, s19, s20, s21, s22, s23, s24, s25, s26, s27⟩ : Inn) (⟨e0, e1, e2, e3, e4, e5, e6, ⟨e7, e8, e9, e10, e11, e12, e13, e14, e15, e16, e17, e18⟩⟩ : Ev))) := by
 show IK (std (B2 N) N) (xOf _) = _
 generalize hres : (some (A8 (Av (⟨r0, r1, r2, r3, r4, r5, r6, r7, r8, r9, r10, r11, r12, r13⟩ : Rul) (⟨s0, s1, s2, s3, s4, s5, s6, s7, s8, s9, s10, s11, s12, s13, s14, s15, s16, s17, s18, s19, s20, s21, s22, s23, s24, s25, s26, s27⟩ : Inn) (⟨e0, e1, e2, e3, e4, e5, e6, ⟨e7, e8, e9, e10, e11, e12, e13, e14, e15, e16, e17, e18⟩⟩ : Ev))) : Option (List PV)) = RR
 have l1 := Sk (⟨r0, r1, r2, r3, r4, r5, r6, r7, r8, r9, r10, r11, r12, r13⟩ : Rul) (⟨s0, s1, s2, s3, s4, s5, s6, s7, s8, s9, s10, s11, s12, s13, s14, s15, s16, s17, s18, s19, s20, s21, s22, s23, s24, s25, s26, s27⟩ : Inn) (⟨e0, e1, e2, e3, e4, e5, e6, ⟨e7, e8, e9, e10, e11, e12, e13, e14, e15, e16, e17, e18⟩⟩ : Ev)
 have f1 := QO l1 h (by simp only; omega)
 simp only [IK, Lh, Mh, LL, Lb, E8, FY, std, xOf, PXb, O0 h hN hs, Rm hN, Bu h, VD h.bt hN]
 subst hres; simp only [Av, PC]
 cases FA (⟨r0, r1, r2, r3, r4, r5, r6, r7, r8, r9, r10, r11, r12, r13⟩ : Rul) (⟨s0, s1, s2, s3, s4, s5, s6, s7, s8, s9, s10, s11, s12, s13, s14, s15, s16, s17, s18, s19, s20, s21, s22, s23, s24, s25, s26, s27⟩ : Inn)
 ·rfl
 cases he : evS (⟨e0, e1, e2, e3, e4, e5, e6, ⟨e7, e8, e9, e10, e11, e12, e13, e14, e15, e16, e17, e18⟩⟩ : Ev) == 0
 ·simp only [PXb, PXc, PXn, PXm, Nat.reduceAdd, Int.reduceBEq, he]
 simp only [PXb, PXc, PXn, PXm, Nat.reduceAdd, Int.reduceBEq, he]
 cases s27 == 0 <;> try rfl
 cases (e0 == 1 || e0 == 12 || e0 == 16) <;> cases B3 s14 <;> cases e0 == 2 <;> try rfl
 all_goals (simp only [PXb, PXc, PXn, PXm, Nat.reduceAdd, Int.reduceBEq, E8, FY, TZ h hw hN hs h13 he, Ur f1 hN hs])
 all_goals (unfold Qa U7; cases (CS (⟨r0, r1, r2, r3, r4, r5, r6, r7, r8, r9, r10, r11, r12, r13⟩ : Rul) (⟨s0, s1, s2, s3, s4, s5, s6, s7, s8, s9, s10, s11, s12, s13, s14, s15, s16, s17, s18, s19, s20, s21, s22, s23, s24, s25, s26, s27⟩ : Inn) (⟨e0, e1, e2, e3, e4, e5, e6, ⟨e7, e8, e9, e10, e11, e12, e13, e14, e15, e16, e17, e18⟩⟩ : Ev)).2 == 0 <;> cases (CS (⟨r0, r1, r2, r3, r4, r5, r6, r7, r8, r9, r10, r11, r12, r13⟩ : Rul) (⟨s0, s1, s2, s3, s4, s5, s6, s7, s8, s9, s10, s11, s12, s13, s14, s15, s16, s17, s18, s19, s20, s21, s22, s23, s24, s25, s26, s27⟩ : Inn) (⟨e0, e1, e2, e3, e4, e5, e6, ⟨e7, e8, e9, e10, e11, e12, e13, e14, e15, e16, e17, e18⟩⟩ : Ev)).1.ending == 0 <;> rfl)
end Go.Px
end
section
namespace Go.Px
set_option maxRecDepth 100000
def H5 (r : Rul) : Rul := { r with name := dS r.name 20, power := cut r.power 10 }
theorem cA (L : Rows) (c : Nat) : (cut L c).length ≤ c := by
 unfold cut
 rw [List.length_drop, List.length_take]
 cases h : iLt (c : Int) (L.length : Int) with
 | true => simp only [cond_true]; omega
 | false => simp only [iLt, decide_eq_false_iff_not] at h; simp only [cond_false]; omega
theorem Yu (r : Rul) (h : r.name.size ≤ 1048576) : (H5 r).name.size ≤ 1048576 := Nat.le_trans (dq _ _) h
theorem Za {s t : Inn} (r : Rul) (b : Bool) (h : Lens s t) : Lens s (Qa r t b) := ⟨h.bt, h.bd, h.sb, h.bw, h.bf⟩
theorem SL (r : Rul) (s : Inn) (e : Ev) : Lens s (Av r s e).1 := by
 unfold Av
 exact L_c _ _ _ (Lens.refl s) (L_c _ _ _ (Lens.refl s) (L_c _ _ _ (Lens.refl s) (L_c _ _ _ (Lens.refl s) (Za r _ (Sk r s e)))))
end Go.Px
end
section
namespace Go.Px
set_option maxRecDepth 100000
theorem aP {r : Rul} {s : Inn} {e : Ev} (h : ((Av r s e).2 == 0) = true) :
    FA r s = true ∧ (evS e == 0) = true ∧ (s.ending == 0) = true ∧ PC s e = false ∧ ((CS r s e).2 == 0) = true ∧ (Av r s e).1 = Qa r (CS r s e).1 (e.kind == 4) := by
  unfold Av at h ⊢
  cases hv : FA r s with
  | false => rw [hv] at h; cases h
  | true =>
    cases he : evS e == 0 with
    | false => rw [hv, he] at h; cases h
    | true =>
      cases hn : s.ending == 0 with
      | false => rw [hv, he, hn] at h; cases h
      | true =>
        cases hw : PC s e with
        | true => rw [hv, he, hn, hw] at h; cases h
        | false =>
          cases hp : (CS r s e).2 == 0 with
          | false => rw [hv, he, hn, hw, hp] at h; exact absurd (hp ▸ h) (by decide)
          | true => exact ⟨rfl, rfl, rfl, rfl, rfl, rfl⟩
end Go.Px
end
section
namespace Go.Px
set_option maxRecDepth 100000
theorem HB {x a b : Int} : btw x a b = true ↔ a ≤ x ∧ x ≤ b := by simp [btw, iLe]
theorem cn {x a b : Int} (h : a ≤ x ∧ x ≤ b) : btw x a b = true := HB.2 h
structure RulOk (r : Rul) : Prop where
 side : 2 ≤ r.side ∧ r.side ≤ 11
 innings : 1 ≤ r.innings ∧ r.innings ≤ 2
 overs : 0 ≤ r.overs ∧ r.overs ≤ 90
 balls : 4 ≤ r.balls ∧ r.balls ≤ 8
 quota : 0 ≤ r.quota ∧ r.quota ≤ 90
 wide : 1 ≤ r.wide ∧ r.wide ≤ 5
 noball : 1 ≤ r.noball ∧ r.noball ≤ 5
 newball : 0 ≤ r.newball ∧ r.newball ≤ 200
 followon : 0 ≤ r.followon ∧ r.followon ≤ 1000
 reviews : 0 ≤ r.reviews ∧ r.reviews ≤ 9
 outside : 0 ≤ r.outside ∧ r.outside ≤ 11
theorem F8 {r : Rul} (h : Ap r = 0) : RulOk r := by
 unfold Ap J2 at h
 cases hn : Sq r.name with
 | false => rw [hn] at h; cases h
 | true =>
  cases hr : Lg r.side r.innings r.overs r.balls r.quota r.wide r.noball r.newball r.followon r.reviews r.outside with
  | false => rw [hn, hr] at h; cases h
  | true =>
   unfold Lg at hr
   simp only [Bool.and_eq_true, HB] at hr
   obtain ⟨⟨⟨⟨⟨⟨⟨⟨⟨⟨h1, h2⟩, h3⟩, h4⟩, h5⟩, h6⟩, h7⟩, h8⟩, h9⟩, h10⟩, h11⟩ := hr
   exact ⟨h1, h2, h3, h4, h5, h6, h7, h8, h9, h10, h11⟩
def Ar (x : Int) : Prop := 0 ≤ x ∧ x ≤ 1000000000
structure InnOk (r : Rul) (s : Inn) : Prop where
 code : Ap r = 0
 side : 1 ≤ s.side ∧ s.side ≤ 2
 lb : (s.batters.length : Int) = r.side
 ld : (s.bowled.length : Int) = r.side
 lz : (s.subs.length : Int) = r.side
 ending : s.ending ≤ 5
 st : 0 ≤ s.striker ∧ s.striker ≤ r.side
 ot : 0 ≤ s.other ∧ s.other ≤ r.side
 bat : O8 s.batters s.striker s.other s.wickets = true
 bow : 0 ≤ s.bowler ∧ s.bowler ≤ r.side
 kee : 0 ≤ s.keeper ∧ s.keeper ≤ r.side
 dw : FK s.bowlers r.side = true
 df : FK s.before r.side = true
 ov : QR r.overs s.overs = true
 io : 0 ≤ s.inover ∧ s.inover ≤ r.balls - 1
 target : Ar s.target
 runs : Ar s.runs
 wides : Ar s.wides
 noballs : Ar s.noballs
 byes : Ar s.byes
 legbyes : Ar s.legbyes
 pens : Ar s.pens
 complete : Ar s.complete
 ballage : Ar s.ballage
 outside : Ar s.outside
 rev1 : Ar s.rev1
 rev2 : Ar s.rev2
 bowled : FU Et s.bowled = false
theorem TT {x : Int} : Et x = false ↔ Ar x := by
 unfold Et Ar
 rw [Bool.not_eq_false', HB]
theorem dY (a b c d e f g h i j k l : Int) : FU Et (ZL a b c d e f g h i j k l) = false ↔ Ar a ∧ Ar b ∧ Ar c ∧ Ar d ∧ Ar e ∧ Ar f ∧ Ar g ∧ Ar h ∧ Ar i ∧ Ar j ∧ Ar k ∧ Ar l := by
 rw [Lj]
 simp only [ZL, List.any_cons, List.any_nil, Bool.or_false, W2, eo, Bool.or_eq_false_iff, TT]
theorem VC {r : Rul} (h : RulOk r) : IntKind.i64.wrap (r.balls - 1) = r.balls - 1 := by
 have := h.balls
 exact BD (by omega) (by omega)
theorem aJ {x : Int} : (!iLt 5 x) = true ↔ x ≤ 5 := by
 rw [Bool.not_eq_true']
 simp only [iLt, decide_eq_false_iff_not]
 omega
theorem Ju {r : Rul} {s : Inn} : FA r s = true ↔ InnOk r s := by
 unfold FA Qb
 simp only [Bool.and_eq_true, Bool.not_eq_true', dY, HB]
 constructor
 ·intro ⟨h1, h2, h3, h4, h5, h6, h7, h8, h9, h10, h11, h12, h13, h14, h15, ⟨n1, n2, n3, n4, n5, n6, n7, n8, n9, n10, n11, n12⟩, h17⟩
  have hc : Ap r = 0 := beq_iff_eq.1 h1
  exact ⟨hc, h2, beq_iff_eq.1 h3, beq_iff_eq.1 h4, beq_iff_eq.1 h5, aJ.1 (by rw [h6]; rfl), h7, h8, h9, h10, h11, h12, h13, h14, by rw [VC (F8 hc)] at h15; exact h15, n1, n2, n3, n4, n5, n6, n7, n8, n9, n10, n11, n12, h17⟩
 ·intro h
  have h6 := aJ.2 h.ending
  rw [Bool.not_eq_true'] at h6
  exact ⟨beq_iff_eq.2 h.code, h.side, beq_iff_eq.2 h.lb, beq_iff_eq.2 h.ld, beq_iff_eq.2 h.lz, h6, h.st, h.ot, h.bat, h.bow, h.kee, h.dw, h.df, h.ov, by rw [VC (F8 h.code)]; exact h.io,
   ⟨h.target, h.runs, h.wides, h.noballs, h.byes, h.legbyes, h.pens, h.complete, h.ballage, h.outside, h.rev1, h.rev2⟩, h.bowled⟩
theorem Up (s : Inn) (d : Del) : (Aw s d).runs = s.runs ∧ (Aw s d).wides = s.wides ∧ (Aw s d).noballs = s.noballs ∧ (Aw s d).byes = s.byes ∧ (Aw s d).legbyes = s.legbyes ∧ (Aw s d).pens = s.pens ∧ (Aw s d).complete = s.complete ∧ (Aw s d).inover = s.inover ∧ (Aw s d).bowler = s.bowler ∧ (Aw s d).bowled = s.bowled := by
  unfold Aw
  cases (!(d.runs.tmod 2 == 0) != d.crossed) <;> exact P_c (P := fun x : Inn => x.runs = s.runs ∧ x.wides = s.wides ∧ x.noballs = s.noballs ∧ x.byes = s.byes ∧ x.legbyes = s.legbyes ∧ x.pens = s.pens ∧ x.complete = s.complete ∧ x.inover = s.inover ∧ x.bowler = s.bowler ∧ x.bowled = s.bowled) _ _ _ ⟨rfl, rfl, rfl, rfl, rfl, rfl, rfl, rfl, rfl, rfl⟩
    (P_c (P := fun x : Inn => x.runs = s.runs ∧ x.wides = s.wides ∧ x.noballs = s.noballs ∧ x.byes = s.byes ∧ x.legbyes = s.legbyes ∧ x.pens = s.pens ∧ x.complete = s.complete ∧ x.inover = s.inover ∧ x.bowler = s.bowler ∧ x.bowled = s.bowled) _ _ _ ⟨rfl, rfl, rfl, rfl, rfl, rfl, rfl, rfl, rfl, rfl⟩ ⟨rfl, rfl, rfl, rfl, rfl, rfl, rfl, rfl, rfl, rfl⟩)
def aZ (r : Rul) (s : Inn) (d : Del) : Inn :=
 let o := B6 r (Aw s d) (Ad r d).counts
 let t : Inn := cond o.2 (II o.1) o.1
 { t with runs := IntKind.i64.wrap (s.runs + Ob (Ad r d)), wides := IntKind.i64.wrap (s.wides + (Ad r d).wides), noballs := IntKind.i64.wrap (s.noballs + (Ad r d).noballs), byes := IntKind.i64.wrap (s.byes + (Ad r d).byes), legbyes := IntKind.i64.wrap (s.legbyes + (Ad r d).legbyes), freehit := cond (d.type == 1) false (cond (d.type == 3 && r.freehit) true o.1.freehit) }
theorem aN {r : Rul} {s : Inn} {d : Del} (h : ((Lu r s d).2 == 0) = true) : (GD r s d == 0) = true ∧ (Lu r s d).1 = aZ r s d := by
 unfold Lu at h ⊢
 cases hr : GD r s d == 0 with
 | false => rw [hr] at h; exact absurd (hr ▸ h) (by decide)
 | true =>
  refine ⟨rfl, ?_⟩
  obtain ⟨k1, k2, k3, k4, k5, _⟩ := Up s d
  simp only [Bool.not_true, cond_false, Xt, k1, k2, k3, k4, k5, aZ]
  generalize B6 r (Aw s d) (Ad r d).counts = o
  obtain ⟨o1, o2⟩ := o
  cases o2 <;> rfl
theorem XJ {r : Rul} {s : Inn} {d : Del} (h : (GD r s d == 0) = true) : Cx s.batters s.striker s.other = false ∧ (s.bowler == 0) = false ∧ (N6 r s == 0) = true ∧ (E7 d == 0) = true ∧ (NU d s.freehit == 0) = true ∧ (Od s d == 0) = true := by
 unfold GD at h
 cases h1 : Cx s.batters s.striker s.other with
 | true => rw [h1] at h; cases h
 | false =>
  cases h2 : s.bowler == 0 with
  | true => rw [h1, h2] at h; cases h
  | false =>
   rw [h1, h2] at h
   change (VS _ _ _ _ == 0) = true at h
   unfold VS at h
   cases h3 : N6 r s == 0 with
   | false => rw [h3] at h; exact absurd (h3 ▸ h) (by decide)
   | true =>
    cases h4 : E7 d == 0 with
    | false => rw [h3, h4] at h; exact absurd (h4 ▸ h) (by decide)
    | true =>
     cases h5 : NU d s.freehit == 0 with
     | false => rw [h3, h4, h5] at h; exact absurd (h5 ▸ h) (by decide)
     | true =>
      cases h6 : Od s d == 0 with
      | false => rw [h3, h4, h5, h6] at h; exact absurd (h6 ▸ h) (by decide)
      | true => exact ⟨rfl, rfl, rfl, rfl, rfl, rfl⟩
theorem Zw {d : Del} {f : Bool} (h : (NU d f == 0) = true) (hd : (d.how == 0) = false) : (d.victim == 1) = true ∨ (d.victim == 2) = true := by
 unfold NU at h
 rw [hd] at h
 cases h1 : d.victim == 1 with
 | true => exact .inl rfl
 | false =>
  cases h2 : d.victim == 2 with
  | true => exact .inr rfl
  | false =>
   rw [h1, h2] at h
   exfalso
   revert h
   cases (!onS d.how d.type || f && !Xo d.how) <;> cases (!LZ d.how && (!(d.source == 0) || !(d.runs == 0))) <;> intro h <;> cases h
theorem dT {s : Inn} {e : Ev} (h : PC s e = false) (hk : (e.kind == 2) = false) : B3 s.batters = true := by
 unfold PC at h
 rw [hk] at h
 cases hb : B3 s.batters with
 | true => rfl
 | false => rw [hb] at h; simp at h
end Go.Px
end
section
namespace Go.Px
set_option maxRecDepth 100000
theorem eF {L : Rows} {s n : Int} (h : Cx L s n = false) (hb : B3 L = true) : (s == 0) = false ∧ (n == 0) = false := by
 unfold Cx at h
 rw [hb, Bool.true_and, Bool.or_eq_false_iff] at h
 exact h
theorem W0 {r : Rul} {s : Inn} (h : InnOk r s) (hb : (s.bowler == 0) = false) : inR s.bowler s.bowled.length = true := by
 have h1 := h.bow
 have h2 := h.ld
 rw [beq_eq_false_iff_ne] at hb
 simp only [inR, iLe, Bool.and_eq_true, decide_eq_true_eq]
 omega
end Go.Px
end
section
namespace Go.Px
set_option maxRecDepth 100000
def eI : Inn := ⟨0, 0, 0, 0, 0, 0, 0, 0, 0, 0, 0, 0, 0, 0, [], 0, [], [], false, [], false, 0, 0, 0, [], 0, 0, 0⟩
def gU (n : Nat) (overs side t p : Int) : Inn := ⟨side, t, overs, p, 0, 0, 0, 0, 0, p, 0, 0, 0, 0, List.replicate n [.int 0], 0, [], [], false, List.replicate n [.int 0], false, 0, 0, 0, List.replicate n [.bool false], 0, 0, 0⟩
def BO (r : Rul) (side t p : Int) : Inn × Int :=
 cond (!(Ap r == 0)) (eI, Ap r) (cond (!btw side 1 2 || !btw t 0 1000000 || !btw p 0 1000000) (eI, 2) (gU r.side.toNat r.overs side t p, 0))
theorem PJ {N : Nat} {r1 r2 r3 r4 r5 r6 r7 r9 r10 r11 r12 : Int} {r8 : Bool} {r0 : ByteArray} {r13 : Rows} {a : Int} {b : Int} {c : Int} (hN : 2097152 < N) (hs : r0.size ≤ 1048576) : E3 N [.str r0, .int r1, .int r2, .int r3, .int r4, .int r5, .int r6, .int r7, .bool r8, .int r9, .int r10, .int r11, .int r12, .rows r13, .int a, .int b, .int c] = some (A8 (BO (⟨r0, r1, r2, r3, r4, r5, r6, r7, r8, r9, r10, r11, r12, r13⟩ : Rul) a b c)) := by
 show HO (std (Fe N) N) (xOf _) = _
 generalize hres : (some (A8 (BO (⟨r0, r1, r2, r3, r4, r5, r6, r7, r8, r9, r10, r11, r12, r13⟩ : Rul) a b c)) : Option (List PV)) = RR
 simp only [HO, L7, J7, std, xOf, PXb, CP hN hs, C6]
 subst hres; simp only [BO]
 cases hc : Ap (⟨r0, r1, r2, r3, r4, r5, r6, r7, r8, r9, r10, r11, r12, r13⟩ : Rul) == 0 with
 | false => rfl
 | true =>
  have rk := (F8 (beq_iff_eq.1 hc)).side
  obtain ⟨k, hk⟩ : ∃ k : Nat, r1 = k := ⟨r1.toNat, by simp only at rk; omega⟩
  subst hk
  simp only at rk
  have h1 : iSm (k : Int) 1 = true := Lz (by omega) (by omega)
  have h8 : iSm (k : Int) 8 = true := Lz (by omega) (by omega)
  simp only [PXb, PXc, PXn, PXm, Nat.reduceAdd, Int.reduceBEq, h1, h8]
  cases btw a 1 2 <;> cases btw b 0 1000000 <;> cases btw c 0 1000000 <;> rfl
theorem fG (n i : Nat) : atI (List.replicate n [.int 0]) i 0 = 0 := by
 unfold atI AF Aa
 rw [List.getD_eq_getElem?_getD, List.getElem?_replicate]
 split <;> rfl
theorem Ni (r : Rul) (side t p : Int) : (BO r side t p).1.Fit ∧ (BO r side t p).1.before = [] ∧ (BO r side t p).1.bowlers = [] := by
 unfold BO
 cases hc : Ap r == 0 with
 | false => exact ⟨⟨by show 0 ≤ 1048576; omega, by show 0 ≤ 1048576; omega, by show 0 ≤ 1048576; omega, by show 0 ≤ 1048576; omega, by show 0 ≤ 1048576; omega⟩, rfl, rfl⟩
 | true =>
  have hs := (F8 (beq_iff_eq.1 hc)).side
  have hl : ∀ x : List PV, (List.replicate r.side.toNat x).length ≤ 1048576 := fun x => by rw [List.length_replicate]; omega
  cases (!btw side 1 2 || !btw t 0 1000000 || !btw p 0 1000000) with
  | true => exact ⟨⟨by show 0 ≤ 1048576; omega, by show 0 ≤ 1048576; omega, by show 0 ≤ 1048576; omega, by show 0 ≤ 1048576; omega, by show 0 ≤ 1048576; omega⟩, rfl, rfl⟩
  | false => exact ⟨⟨hl _, by show 0 ≤ 1048576; omega, by show 0 ≤ 1048576; omega, hl _, hl _⟩, rfl, rfl⟩
theorem fH {s : Inn} (h : s.Fit) : (Mf s).Fit := ⟨h.bt, h.bw, h.bf, h.bd, h.sb⟩
end Go.Px
end
section
namespace Go.Px
set_option maxRecDepth 100000
def Shp (L : Rows) : Prop := ∀ r ∈ L, r ≠ []
theorem fR (r : List PV) (v : PV) (h : r ≠ []) : AE (BJ r 0 [v]) 0 = v := by
 cases r with
 | nil => exact absurd rfl h
 | cons a b => rfl
theorem aL {L : Rows} {i : Nat} (h : i < L.length) : Aa L i ∈ L := by
 unfold Aa
 rw [List.getD_eq_getElem?_getD, List.getElem?_eq_getElem h]
 exact List.getElem_mem h
theorem YB {L : Rows} {p v : Int} (hs : Shp L) (hp : ix p < L.length) (i : Nat) : atI (Am L p v) i 0 = cond (Nat.beq i (ix p)) v (atI L i 0) := by
 unfold Am atI AF
 by_cases h : i = ix p
 ·subst h
  have e : Aa (L.set (ix p) (BJ (Aa L (ix p)) 0 [.int v])) (ix p) = BJ (Aa L (ix p)) 0 [.int v] := by
   unfold Aa
   rw [List.getD_eq_getElem?_getD, List.getElem?_set_self hp]
   rfl
  rw [e, fR _ _ (hs _ (aL hp)), Nat.beq_refl]
  rfl
 ·have e : Aa (L.set (ix p) (BJ (Aa L (ix p)) 0 [.int v])) i = Aa L i := by
   unfold Aa
   simp only [List.getD_eq_getElem?_getD]
   rw [List.getElem?_set_ne (fun e => h e.symm)]
  have hb : Nat.beq i (ix p) = false := by
   cases hb : Nat.beq i (ix p) with
   | false => rfl
   | true => exact absurd (Nat.eq_of_beq_eq_true hb) h
  rw [e, hb]
  rfl
theorem fV (r : List PV) (v : PV) (h : r ≠ []) : BJ r 0 [v] ≠ [] := by
 cases r with
 | nil => exact absurd rfl h
 | cons a b => intro e; cases e
theorem IU {L : Rows} {p v : Int} (hs : Shp L) : Shp (Am L p v) := by
 unfold Am
 by_cases hp : ix p < L.length
 ·intro r hr
  rcases List.mem_or_eq_of_mem_set hr with h | h
  ·exact hs r h
  ·rw [h]; exact fV _ _ (hs _ (aL hp))
 ·rw [List.set_eq_of_length_le (by omega)]; exact hs
theorem PB {p : Int} {n : Nat} (h : inR p n = true) (hn : n ≤ 1048576) : (ix p : Int) = p - 1 ∧ ix p < n := by
 simp only [inR, iLe, Bool.and_eq_true, decide_eq_true_eq] at h
 unfold ix
 rw [BD (by omega) (by omega)]
 omega
theorem Z8 {p q : Nat → Bool} {k : Nat} (h : ∀ j, j ≠ k → q j = p j) : ∀ n, k < n → Bb q n + cond (p k) 1 0 = Bb p n + cond (q k) 1 0
 | 0, hn => by omega
 | n + 1, hn => by
  unfold Bb
  by_cases e : k = n
  ·subst e
   have : Bb q k = Bb p k := PE k (fun j hj => h j (by omega))
   rw [this]
   cases p k <;> cases q k <;> simp only [cond_true, cond_false] <;> omega
  ·have ih := Z8 h n (by omega)
   rw [h n (fun x => e x.symm)]
   cases p n <;> simp only [cond_true, cond_false] <;> omega
theorem gW {L : Rows} {p v w : Int} (hs : Shp L) (hp : ix p < L.length) : Bb (pIs (Am L p v) w) L.length + cond (atI L (ix p) 0 == w) 1 0 = Bb (pIs L w) L.length + cond (v == w) 1 0 := by
 have h1 := Z8 (p := pIs L w) (q := pIs (Am L p v) w) (k := ix p) (fun j hj => by
  unfold pIs
  rw [YB hs hp]
  have : Nat.beq j (ix p) = false := by
   cases hb : Nat.beq j (ix p) with
   | false => rfl
   | true => exact absurd (Nat.eq_of_beq_eq_true hb) hj
  rw [this]; rfl) L.length hp
 have h2 : pIs (Am L p v) w (ix p) = (v == w) := by unfold pIs; rw [YB hs hp, Nat.beq_refl]; rfl
 rw [h2] at h1
 exact h1
structure BatOk (L : Rows) (s n wk : Int) : Prop where
 le : ∀ i, i < L.length → atI L i 0 ≤ 3
 at1 : ∀ i, i < L.length → (atI L i 0 = 1 ↔ (s = (i : Int) + 1 ∨ n = (i : Int) + 1))
 here : B3 L = true → s ≠ 0 ∨ n ≠ 0
 ne : s ≠ 0 → s ≠ n
 wk : wk = OP L
theorem eR {L : Rows} {s n : Int} (h : ∀ i, i < L.length → (atI L i 0 = 1 ↔ (s = (i : Int) + 1 ∨ n = (i : Int) + 1))) : ∀ i, i < L.length → pIs L 1 i = Nw s n i := fun i hi => by
 have := h i hi
 unfold pIs Nw
 rw [Bool.eq_iff_iff, Bool.or_eq_true, beq_iff_eq, beq_iff_eq, beq_iff_eq]
 exact this
theorem Z9 {L : Rows} {s n : Int} (hs : 0 ≤ s ∧ s ≤ (L.length : Int)) (hn : 0 ≤ n ∧ n ≤ (L.length : Int)) (hd : s ≠ 0 → s ≠ n) (h : ∀ i, i < L.length → (atI L i 0 = 1 ↔ (s = (i : Int) + 1 ∨ n = (i : Int) + 1))) :
    ins L = cond (!(s == 0)) 1 0 + cond (!(n == 0)) 1 0 := by
  have h1 : (s == n && !(s == 0)) = false := by
    cases h2 : s == 0 with
    | true => simp
    | false =>
      rw [beq_eq_false_iff_ne] at h2
      rw [beq_false_of_ne (hd h2)]; rfl
  unfold ins
  rw [PE L.length (eR h), ← Z0 hs hn h1, aB]
theorem Z7 {L : Rows} {s n wk : Int} (hs : 0 ≤ s ∧ s ≤ (L.length : Int)) (hn : 0 ≤ n ∧ n ≤ (L.length : Int)) : O8 L s n wk = true ↔ BatOk L s n wk := by
 unfold O8
 rw [Bool.and_eq_true, Bool.and_eq_true, Bool.not_eq_true', Bool.not_eq_true', Bw, beq_iff_eq, Bool.or_eq_false_iff]
 constructor
 ·intro ⟨h1, ⟨h2, h3⟩, h4⟩
  have hd : s ≠ 0 → s ≠ n := fun h5 h6 => by
   rw [h6, beq_self_eq_true, Bool.and_true, Bool.not_eq_false', beq_iff_eq] at h3
   exact h5 (h6.trans h3)
  have ha : ∀ i, i < L.length → (atI L i 0 = 1 ↔ (s = (i : Int) + 1 ∨ n = (i : Int) + 1)) := fun i hi => by
   have := h1 i (by omega) (by omega)
   unfold Ph at this
   rw [Bool.or_eq_false_iff, Bool.not_eq_false', beq_iff_eq] at this
   have := this.2
   unfold pIs Nw at this
   rw [Bool.eq_iff_iff, Bool.or_eq_true, beq_iff_eq, beq_iff_eq, beq_iff_eq] at this
   exact this
  refine ⟨fun i hi => ?_, ha, fun hb => ?_, hd, h4⟩
  ·have := h1 i (by omega) (by omega)
   unfold Ph at this
   rw [Bool.or_eq_false_iff] at this
   have := this.1
   simp only [iLt, decide_eq_false_iff_not] at this
   omega
  ·rw [hb, Bool.true_and, Z9 hs hn hd ha] at h2
   simp only [iLt, decide_eq_false_iff_not] at h2
   by_cases h5 : s = 0
   ·by_cases h6 : n = 0
    ·subst h5; subst h6; exact absurd (by decide) h2
    ·exact .inr h6
   ·exact .inl h5
 ·intro h
  refine ⟨fun i _ hi => ?_, ⟨?_, ?_⟩, h.wk⟩
  ·unfold Ph
   rw [Bool.or_eq_false_iff, Bool.not_eq_false', beq_iff_eq, eR h.at1 i (by omega)]
   have := h.le i (by omega)
   exact ⟨by simp only [iLt, decide_eq_false_iff_not]; omega, rfl⟩
  ·cases hb : B3 L with
   | false => rfl
   | true =>
    rw [Z9 hs hn h.ne h.at1, Bool.true_and]
    rcases h.here hb with h5 | h5
    ·rw [beq_false_of_ne h5]
     cases n == 0 <;> rfl
    ·rw [beq_false_of_ne h5]
     cases s == 0 <;> rfl
  ·cases h5 : s == 0 with
   | true => rfl
   | false =>
    rw [beq_eq_false_iff_ne] at h5
    rw [beq_false_of_ne (h.ne h5)]; rfl
end Go.Px
end
section
namespace Go.Px
set_option maxRecDepth 100000
theorem OZ {r : Rul} {s : Inn} (h : InnOk r s) : BatOk s.batters s.striker s.other s.wickets := (Z7 (by rw [h.lb]; exact h.st) (by rw [h.lb]; exact h.ot)).1 h.bat
theorem GA {r : Rul} {s : Inn} (h : InnOk r s) : 2 ≤ r.side ∧ r.side ≤ 11 := (F8 h.code).side
theorem LV {L : Rows} {p v : Int} (hs : Shp L) (hp : ix p < L.length) : OP (Am L p v) + cond (atI L (ix p) 0 == 2) 1 0 = OP L + cond (v == 2) 1 0 := by
 have := gW (w := 2) (v := v) hs hp
 unfold OP
 rw [BU]
 exact this
theorem KP {L : Rows} {s n wk sd : Int} (b : BatOk L s n wk) (hl : (L.length : Int) = sd) (hs : 0 ≤ s ∧ s ≤ sd) (hn : 0 ≤ n ∧ n ≤ sd) : O8 L s n wk = true := (Z7 (by rw [hl]; exact hs) (by rw [hl]; exact hn)).2 b
theorem Nt {L : Rows} {p v : Int} (hs : Shp L) (hp : ix p < L.length) (i : Nat) : (i = ix p ∧ atI (Am L p v) i 0 = v) ∨ (i ≠ ix p ∧ atI (Am L p v) i 0 = atI L i 0) := by
 rw [YB hs hp]
 by_cases h : i = ix p
 ·subst h; rw [Nat.beq_refl]; exact .inl ⟨rfl, rfl⟩
 ·cases hb : Nat.beq i (ix p) with
  | false => exact .inr ⟨h, rfl⟩
  | true => exact absurd (Nat.eq_of_beq_eq_true hb) h
theorem bz {r : Rul} {s : Inn} {p q : Int} (h : InnOk r s) (hs : Shp s.batters) (hl : ((KS s p q).2 == 0) = true) : InnOk r (KS s p q).1 := by
 unfold KS at hl ⊢
 cases hb : B3 s.batters with
 | true => rw [hb] at hl; cases hl
 | false =>
  cases hp : inR p s.batters.length with
  | false => rw [hb, hp] at hl; cases hl
  | true =>
   cases hq : inR q s.batters.length with
   | false => rw [hb, hp, hq] at hl; cases hl
   | true =>
    cases hd : p == q with
    | true => rw [hb, hp, hq, hd] at hl; cases hl
    | false =>
     have hsd := GA h
     have hlen := h.lb
     have b := OZ h
     obtain ⟨i1, j1⟩ := PB hp (by omega)
     obtain ⟨i2, j2⟩ := PB hq (by omega)
     have z : ∀ i, i < s.batters.length → atI s.batters i 0 = 0 := fun i hi => by
      have := Bw.1 hb i (by omega) (by omega)
      rw [Bool.not_eq_false', beq_iff_eq] at this
      exact this
     have hs1 := IU (p := p) (v := 1) hs
     have j3 : ix q < (Am s.batters p 1).length := by rw [BU]; exact j2
     rw [beq_eq_false_iff_ne] at hd
     have o1 := LV (v := 1) hs j1
     have o2 := LV (v := 1) hs1 j3
     have z1 := z _ j1
     have hl2 : (Am (Am s.batters p 1) q 1).length = s.batters.length := by rw [BU, BU]
     have hv := fun i => Nt (v := 1) hs1 j3 i
     have hv2 := fun i => Nt (v := 1) hs j1 i
     have z2 : atI (Am s.batters p 1) (ix q) 0 = 0 := by
      rcases hv2 (ix q) with ⟨a, c⟩ | ⟨a, c⟩
      ·omega
      ·rw [c]; exact z _ j2
     rw [z1] at o1
     rw [z2] at o2
     have bt : BatOk (Am (Am s.batters p 1) q 1) p q s.wickets := by
      refine ⟨fun i hi => ?_, fun i hi => ?_, fun _ => .inl (by omega), fun _ => hd, ?_⟩
      ·rw [hl2] at hi
       have := z i hi
       rcases hv i with ⟨a, c⟩ | ⟨a, c⟩ <;> rcases hv2 i with ⟨a2, c2⟩ | ⟨a2, c2⟩ <;> omega
      ·rw [hl2] at hi
       have := z i hi
       rcases hv i with ⟨a, c⟩ | ⟨a, c⟩ <;> rcases hv2 i with ⟨a2, c2⟩ | ⟨a2, c2⟩ <;> omega
      ·have := b.wk
       have e1 : (cond ((0 : Int) == 2) 1 0 : Int) = 0 := rfl
       have e2 : (cond ((1 : Int) == 2) 1 0 : Int) = 0 := rfl
       omega
     have p1 : 1 ≤ p ∧ p ≤ (s.batters.length : Int) := by simpa [inR, iLe] using hp
     have q1 : 1 ≤ q ∧ q ≤ (s.batters.length : Int) := by simpa [inR, iLe] using hq
     have l3 : ((Am (Am s.batters p 1) q 1).length : Int) = r.side := by rw [hl2]; exact hlen
     have s1 : 0 ≤ p ∧ p ≤ r.side := by omega
     have s2 : 0 ≤ q ∧ q ≤ r.side := by omega
     have b6 := KP bt l3 s1 s2
     exact { h with lb := l3, st := s1, ot := s2, bat := b6 }
theorem cg {s : Inn} {p : Int} (h : (Ja s p == 0) = true) : inR p s.batters.length = true ∧ Cx s.batters s.striker s.other = true ∧ atI s.batters (ix p) 0 ≠ 1 ∧ atI s.batters (ix p) 0 ≠ 2 := by
 unfold Ja at h
 cases h1 : inR p s.batters.length with
 | false => rw [h1] at h; cases h
 | true =>
  cases h2 : Cx s.batters s.striker s.other with
  | false => rw [h1, h2] at h; cases h
  | true =>
   cases h3 : atI s.batters (ix p) 0 == 1 with
   | true => rw [h1, h2, h3] at h; cases h
   | false =>
    cases h4 : atI s.batters (ix p) 0 == 2 with
    | true => rw [h1, h2, h3, h4] at h; cases h
    | false => exact ⟨rfl, rfl, beq_eq_false_iff_ne.1 h3, beq_eq_false_iff_ne.1 h4⟩
theorem Wp {L : Rows} {s n : Int} (h : Cx L s n = true) : B3 L = true ∧ (s = 0 ∨ n = 0) := by
 unfold Cx at h
 rw [Bool.and_eq_true, Bool.or_eq_true, beq_iff_eq, beq_iff_eq] at h
 exact h
theorem bC {r : Rul} {s : Inn} {p : Int} (h : InnOk r s) (hs : Shp s.batters) (hl : ((Gz s p).2 == 0) = true) : InnOk r (Gz s p).1 := by
 unfold Gz at hl ⊢
 cases hm : Ja s p == 0 with
 | false => rw [hm] at hl; exact absurd (hm ▸ hl) (by decide)
 | true =>
  obtain ⟨hp, hsh, n1, n2⟩ := cg hm
  obtain ⟨hbeg, hz⟩ := Wp hsh
  have hsd := GA h
  have hlen := h.lb
  have b := OZ h
  obtain ⟨i1, j1⟩ := PB hp (by omega)
  have hl2 : (Am s.batters p 1).length = s.batters.length := BU _ _ _
  have hv := fun i => Nt (v := 1) hs j1 i
  have o1 := LV (v := 1) hs j1
  rw [beq_false_of_ne n2] at o1
  have e2 : (cond ((1 : Int) == 2) 1 0 : Int) = 0 := rfl
  have e3 : (cond false 1 0 : Int) = 0 := rfl
  have p1 : 1 ≤ p ∧ p ≤ (s.batters.length : Int) := by simpa [inR, iLe] using hp
  have a1 := b.at1 _ j1
  have hst := h.st
  have hot := h.ot
  have hwk := b.wk
  cases h0 : s.striker == 0 with
  | true =>
   rw [beq_iff_eq] at h0
   have bt : BatOk (Am s.batters p 1) p s.other s.wickets := by
    refine ⟨fun i hi => ?_, fun i hi => ?_, fun _ => .inl (by omega), fun _ => by omega, by omega⟩
    ·rw [hl2] at hi
     have := b.le i hi
     rcases hv i with ⟨a, c⟩ | ⟨a, c⟩ <;> omega
    ·rw [hl2] at hi
     have := b.at1 i hi
     rcases hv i with ⟨a, c⟩ | ⟨a, c⟩ <;> omega
   have l3 : ((Am s.batters p 1).length : Int) = r.side := by rw [hl2]; exact hlen
   have s1 : 0 ≤ p ∧ p ≤ r.side := by omega
   have b6 := KP bt l3 s1 hot
   exact { h with lb := l3, st := s1, ot := hot, bat := b6 }
  | false =>
   rw [beq_eq_false_iff_ne] at h0
   have bt : BatOk (Am s.batters p 1) s.striker p s.wickets := by
    refine ⟨fun i hi => ?_, fun i hi => ?_, fun _ => .inl h0, fun _ => by omega, by omega⟩
    ·rw [hl2] at hi
     have := b.le i hi
     rcases hv i with ⟨a, c⟩ | ⟨a, c⟩ <;> omega
    ·rw [hl2] at hi
     have := b.at1 i hi
     rcases hv i with ⟨a, c⟩ | ⟨a, c⟩ <;> omega
   have l3 : ((Am s.batters p 1).length : Int) = r.side := by rw [hl2]; exact hlen
   have s1 : 0 ≤ p ∧ p ≤ r.side := by omega
   have b6 := KP bt l3 hst s1
   exact { h with lb := l3, st := hst, ot := s1, bat := b6 }
theorem Yo {r : Rul} {s : Inn} (h : InnOk r s) : inc s.wickets = s.wickets + 1 := by
 have h1 := (OZ h).wk
 have h2 := X9 (pIs s.batters 2) s.batters.length
 have h3 := GA h
 have h4 := h.lb
 unfold OP at h1
 exact BD (by omega) (by omega)
theorem YZ {r : Rul} {s : Inn} {p : Int} (h : InnOk r s) (hs : Shp s.batters) (hl : ((DY s p).2 == 0) = true) : InnOk r (DY s p).1 := by
 unfold DY at hl ⊢
 cases hm : Ja s p == 0 with
 | false => rw [hm] at hl; exact absurd (hm ▸ hl) (by decide)
 | true =>
  obtain ⟨hp, hsh, n1, n2⟩ := cg hm
  obtain ⟨hbeg, hz⟩ := Wp hsh
  have hsd := GA h
  have hlen := h.lb
  have b := OZ h
  obtain ⟨i1, j1⟩ := PB hp (by omega)
  have hl2 : (Am s.batters p 2).length = s.batters.length := BU _ _ _
  have hv := fun i => Nt (v := 2) hs j1 i
  have o1 := LV (v := 2) hs j1
  rw [beq_false_of_ne n2] at o1
  have e2 : (cond ((2 : Int) == 2) 1 0 : Int) = 1 := rfl
  have e3 : (cond false 1 0 : Int) = 0 := rfl
  have a1 := b.at1 _ j1
  have hst := h.st
  have hot := h.ot
  have hwk := b.wk
  have hin := Yo h
  have bt : BatOk (Am s.batters p 2) s.striker s.other (inc s.wickets) := by
   refine ⟨fun i hi => ?_, fun i hi => ?_, fun _ => b.here hbeg, b.ne, by omega⟩
   ·rw [hl2] at hi
    have := b.le i hi
    rcases hv i with ⟨a, c⟩ | ⟨a, c⟩ <;> omega
   ·rw [hl2] at hi
    have := b.at1 i hi
    rcases hv i with ⟨a, c⟩ | ⟨a, c⟩ <;> omega
  have l3 : ((Am s.batters p 2).length : Int) = r.side := by rw [hl2]; exact hlen
  have b6 := KP bt l3 hst hot
  exact { h with lb := l3, bat := b6 }
theorem dD {s : Inn} {p : Int} {hurt : Bool} (h : ((DH s p hurt).2 == 0) = true) : inR p s.batters.length = true ∧ s.striker ≠ 0 ∧ s.other ≠ 0 ∧ (p = s.striker ∨ p = s.other) ∧ (hurt && ((C5 s.batters s.batters.length).length : Int) == 0) = false := by
 unfold DH at h
 cases h1 : inR p s.batters.length with
 | false => rw [h1] at h; cases h
 | true =>
  cases h2 : s.striker == 0 with
  | true => rw [h1, h2] at h; cases h
  | false =>
   cases h3 : s.other == 0 with
   | true => rw [h1, h2, h3] at h; cases h
   | false =>
    cases h4 : (!(p == s.striker) && !(p == s.other)) with
    | true => rw [h1, h2, h3, h4] at h; cases h
    | false =>
     cases h5 : (hurt && ((C5 s.batters s.batters.length).length : Int) == 0) with
     | true => rw [h1, h2, h3, h4, h5] at h; cases h
     | false =>
      refine ⟨rfl, beq_eq_false_iff_ne.1 h2, beq_eq_false_iff_ne.1 h3, ?_, rfl⟩
      rw [Bool.and_eq_false_iff, Bool.not_eq_false', Bool.not_eq_false', beq_iff_eq, beq_iff_eq] at h4
      exact h4
theorem Zh {r : Rul} {s : Inn} {p : Int} {hurt : Bool} (h : InnOk r s) (hs : Shp s.batters) (hl : ((DH s p hurt).2 == 0) = true) : InnOk r (DH s p hurt).1 := by
 obtain ⟨hp, z1, z2, hpp, hlf⟩ := dD hl
 have hsd := GA h
 have hlen := h.lb
 have b := OZ h
 obtain ⟨i1, j1⟩ := PB hp (by omega)
 have a1 := b.at1 _ j1
 have hst := h.st
 have hot := h.ot
 have hwk := b.wk
 have hin := Yo h
 have hne := b.ne z1
 have hold : atI s.batters (ix p) 0 = 1 := a1.2 (by omega)
 have e : (DH s p hurt).1 = { s with striker := cond (p == s.striker) 0 s.striker, other := cond (p == s.striker) s.other 0, batters := Am s.batters p (cond hurt 3 2), wickets := cond hurt s.wickets (inc s.wickets) } := by
  unfold DH
  rw [hp, beq_false_of_ne z1, beq_false_of_ne z2, hlf]
  have : (!(p == s.striker) && !(p == s.other)) = false := by
   rw [Bool.and_eq_false_iff, Bool.not_eq_false', Bool.not_eq_false', beq_iff_eq, beq_iff_eq]
   exact hpp
  rw [this]
  rfl
 rw [e]
 have hl2 : (Am s.batters p (cond hurt 3 2)).length = s.batters.length := BU _ _ _
 have hv := fun i => Nt (v := cond hurt 3 2) hs j1 i
 have o1 := LV (v := cond hurt 3 2) hs j1
 rw [hold] at o1
 have e1 : (cond ((1 : Int) == 2) 1 0 : Int) = 0 := rfl
 have hvv : (cond hurt 3 2 : Int) ≠ 1 ∧ (cond hurt 3 2 : Int) ≤ 3 := by cases hurt <;> decide
 have hw2 : (cond hurt s.wickets (inc s.wickets) : Int) = OP (Am s.batters p (cond hurt 3 2)) := by
  cases hurt with
  | true =>
   have e2 : (cond ((cond true 3 2 : Int) == 2) 1 0 : Int) = 0 := rfl
   show s.wickets = _
   omega
  | false =>
   have e2 : (cond ((cond false 3 2 : Int) == 2) 1 0 : Int) = 1 := rfl
   show inc s.wickets = _
   omega
 have bt : BatOk (Am s.batters p (cond hurt 3 2)) (cond (p == s.striker) 0 s.striker) (cond (p == s.striker) s.other 0) (cond hurt s.wickets (inc s.wickets)) := by
  cases hq : p == s.striker with
  | true =>
   rw [beq_iff_eq] at hq
   refine ⟨fun i hi => ?_, fun i hi => ?_, fun _ => .inr z2, fun h9 => absurd rfl h9, hw2⟩
   ·rw [hl2] at hi
    have := b.le i hi
    rcases hv i with ⟨a, c⟩ | ⟨a, c⟩ <;> omega
   ·rw [hl2] at hi
    have := b.at1 i hi
    show _ ↔ ((0 : Int) = _ ∨ s.other = _)
    rcases hv i with ⟨a, c⟩ | ⟨a, c⟩ <;> omega
  | false =>
   rw [beq_eq_false_iff_ne] at hq
   refine ⟨fun i hi => ?_, fun i hi => ?_, fun _ => .inl z1, fun h9 => z1, hw2⟩
   ·rw [hl2] at hi
    have := b.le i hi
    rcases hv i with ⟨a, c⟩ | ⟨a, c⟩ <;> omega
   ·rw [hl2] at hi
    have := b.at1 i hi
    show _ ↔ (s.striker = _ ∨ (0 : Int) = _)
    rcases hv i with ⟨a, c⟩ | ⟨a, c⟩ <;> omega
 have s1 : 0 ≤ (cond (p == s.striker) 0 s.striker : Int) ∧ (cond (p == s.striker) 0 s.striker : Int) ≤ r.side := by cases p == s.striker <;> simp only [cond_true, cond_false] <;> omega
 have s2 : 0 ≤ (cond (p == s.striker) s.other 0 : Int) ∧ (cond (p == s.striker) s.other 0 : Int) ≤ r.side := by cases p == s.striker <;> simp only [cond_true, cond_false] <;> omega
 have l3 : ((Am s.batters p (cond hurt 3 2)).length : Int) = r.side := by rw [hl2]; exact hlen
 have b6 := KP bt l3 s1 s2
 exact { h with lb := l3, st := s1, ot := s2, bat := b6 }
end Go.Px
end
section
namespace Go.Px
set_option maxRecDepth 100000
theorem Vf (L : Rows) (p v : Int) (i : Nat) : atI (Am L p v) i 0 = v ∨ atI (Am L p v) i 0 = atI L i 0 := by
 unfold Am atI AF
 by_cases h : i = ix p
 ·subst h
  by_cases hp : ix p < L.length
  ·have e : Aa (L.set (ix p) (BJ (Aa L (ix p)) 0 [.int v])) (ix p) = BJ (Aa L (ix p)) 0 [.int v] := by
    unfold Aa
    rw [List.getD_eq_getElem?_getD, List.getElem?_set_self hp]
    rfl
   rw [e]
   cases Aa L (ix p) with
   | nil => exact .inr rfl
   | cons a b => exact .inl rfl
  ·rw [List.set_eq_of_length_le (by omega)]; exact .inr rfl
 ·have e : Aa (L.set (ix p) (BJ (Aa L (ix p)) 0 [.int v])) i = Aa L i := by
   unfold Aa
   simp only [List.getD_eq_getElem?_getD]
   rw [List.getElem?_set_ne (fun e => h e.symm)]
  rw [e]; exact .inr rfl
theorem Ye {L M : Rows} {i : Nat} (h : i < L.length) : atI (L ++ M) i 0 = atI L i 0 := by
 unfold atI AF Aa
 simp only [List.getD_eq_getElem?_getD]
 rw [List.getElem?_append_left h]
theorem fP (L : Rows) (b : Int) : atI (L ++ [[.int b]]) L.length 0 = b := by
 unfold atI AF Aa
 simp only [List.getD_eq_getElem?_getD]
 rw [List.getElem?_append_right (Nat.le_refl _)]
 simp [AE, pvI]
theorem dn {L : Rows} {n b : Int} (h : FK L n = true) (hb : btw b 1 n = true) (hh : EG L L.length b = false) : FK (L ++ [[.int b]]) n = true := by
 unfold FK at h ⊢
 rw [Bool.not_eq_true', Bw] at h ⊢
 intro j _ hj
 simp only [List.length_append, List.length_cons, List.length_nil] at hj
 unfold J1
 by_cases e : j < L.length
 ·have := h j (by omega) (by omega)
  unfold J1 at this
  have hc : EG (L ++ [[.int b]]) j (atI L j 0) = EG L j (atI L j 0) := Nm j 0 (fun i _ hi => by rw [Ye (by omega)])
  rw [Ye e, hc]
  exact this
 ·have : j = L.length := by omega
  subst this
  have hc : EG (L ++ [[.int b]]) L.length b = EG L L.length b := Nm _ 0 (fun i _ hi => by rw [Ye (by omega)])
  rw [fP, hb, hc, hh]
  rfl
structure Small (s : Inn) : Prop where
 target : s.target ≤ 999999900
 runs : s.runs ≤ 999999900
 wides : s.wides ≤ 999999900
 noballs : s.noballs ≤ 999999900
 byes : s.byes ≤ 999999900
 legbyes : s.legbyes ≤ 999999900
 pens : s.pens ≤ 999999900
 complete : s.complete ≤ 999999900
 ballage : s.ballage ≤ 999999900
 rev1 : s.rev1 ≤ 999999900
 rev2 : s.rev2 ≤ 999999900
 bowled : ∀ j, j < s.bowled.length → atI s.bowled j 0 ≤ 999999900
theorem IE {x y : Int} (h : Ar x) (h1 : x ≤ 999999900) (h2 : 0 ≤ y) (h3 : y ≤ 100) : IntKind.i64.wrap (x + y) = x + y ∧ Ar (x + y) := by
 unfold Ar at h ⊢
 exact ⟨BD (by omega) (by omega), by omega⟩
theorem QU {x : Int} (h : Ar x) (h1 : x ≤ 999999900) : Ar (inc x) := by
 have := IE h h1 (y := 1) (by omega) (by omega)
 unfold inc
 rw [this.1]; exact this.2
theorem OE {L : Rows} {s n wk : Int} (b : BatOk L s n wk) : BatOk L n s wk := ⟨b.le, fun i hi => (b.at1 i hi).trans or_comm, fun h => (b.here h).symm, fun h e => b.ne (e ▸ h) e.symm, b.wk⟩
theorem aS {L : Rows} {s n wk : Int} (b : BatOk L s n wk) (hs : Shp L) (hl : L.length ≤ 1048576) (h1 : s ≠ 0) (h2 : n ≠ 0) (hp : inR s L.length = true) (hw : inc wk = wk + 1) : BatOk (Am L s 2) 0 n (inc wk) := by
 obtain ⟨i1, j1⟩ := PB hp hl
 have hl2 : (Am L s 2).length = L.length := BU _ _ _
 have hv := fun i => Nt (v := 2) hs j1 i
 have o1 := LV (v := 2) hs j1
 have hold : atI L (ix s) 0 = 1 := (b.at1 _ j1).2 (by omega)
 rw [hold] at o1
 have e1 : (cond ((1 : Int) == 2) 1 0 : Int) = 0 := rfl
 have e2 : (cond ((2 : Int) == 2) 1 0 : Int) = 1 := rfl
 have hwk := b.wk
 have hne := b.ne h1
 refine ⟨fun i hi => ?_, fun i hi => ?_, fun _ => .inr h2, fun h9 => absurd rfl h9, by omega⟩
 ·rw [hl2] at hi
  have := b.le i hi
  rcases hv i with ⟨a, c⟩ | ⟨a, c⟩ <;> omega
 ·rw [hl2] at hi
  have := b.at1 i hi
  rcases hv i with ⟨a, c⟩ | ⟨a, c⟩ <;> omega
theorem aU {r : Rul} {s : Inn} {d : Del} (h : InnOk r s) (hs : Shp s.batters) (z1 : s.striker ≠ 0) (z2 : s.other ≠ 0) (hv : (d.how == 0) = false → (d.victim == 1) = true ∨ (d.victim == 2) = true) : InnOk r (Aw s d) ∧ Shp (Aw s d).batters := by
 have hsd := GA h
 have hlen := h.lb
 have b := OZ h
 have hst := h.st
 have hot := h.ot
 have hw := Yo h
 have p1 : inR s.striker s.batters.length = true := by simp only [inR, iLe, Bool.and_eq_true, decide_eq_true_eq]; omega
 have p2 : inR s.other s.batters.length = true := by simp only [inR, iLe, Bool.and_eq_true, decide_eq_true_eq]; omega
 have b1 := aS b hs (by omega) z1 z2 p1 hw
 have b2 := aS (OE b) hs (by omega) z2 z1 p2 hw
 have l1 : ((Am s.batters s.striker 2).length : Int) = r.side := by rw [BU]; exact hlen
 have l2 : ((Am s.batters s.other 2).length : Int) = r.side := by rw [BU]; exact hlen
 have hz : (0 : Int) ≤ 0 ∧ (0 : Int) ≤ r.side := by omega
 have c1 := KP b1 l1 hz hot
 have c2 := KP (OE b1) l1 hot hz
 have c3 := KP b2 l2 hz hst
 have c4 := KP (OE b2) l2 hst hz
 have c5 := KP (OE b) hlen hot hst
 have s1 : Shp (Am s.batters s.striker 2) := IU hs
 have s2 : Shp (Am s.batters s.other 2) := IU hs
 unfold Aw
 rw [p1, p2, beq_false_of_ne z1, beq_false_of_ne z2]
 cases hd : d.how == 0 with
 | true =>
  cases (!(d.runs.tmod 2 == 0) != d.crossed) with
  | false => exact ⟨h, hs⟩
  | true => exact ⟨{ h with st := hot, ot := hst, bat := c5 }, hs⟩
 | false =>
  cases h1 : d.victim == 1 with
  | true =>
   cases (!(d.runs.tmod 2 == 0) != d.crossed) with
   | false => exact ⟨{ h with lb := l1, st := hz, ot := hot, bat := c1 }, s1⟩
   | true => exact ⟨{ h with lb := l1, st := hot, ot := hz, bat := c2 }, s1⟩
  | false =>
   have h2 : (d.victim == 2) = true := by
    rcases hv hd with h3 | h3
    ·rw [h1] at h3; cases h3
    ·exact h3
   rw [h2]
   cases (!(d.runs.tmod 2 == 0) != d.crossed) with
   | false => exact ⟨{ h with lb := l2, st := hst, ot := hz, bat := c4 }, s2⟩
   | true => exact ⟨{ h with lb := l2, st := hz, ot := hst, bat := c3 }, s2⟩
theorem bE {L : Rows} {p : Int} {n : Nat} (h : FU Et L = false) (hp : inR p L.length = true) (hn : L.length ≤ 1048576) (hsm : ∀ j, j < L.length → atI L j 0 ≤ 999999900) : FU Et (Am L p (inc (atI L (ix p) 0))) = false := by
 obtain ⟨i1, j1⟩ := PB hp hn
 unfold FU at h ⊢
 rw [Bw] at h ⊢
 intro j _ hj
 rw [BU] at hj
 have hj1 := h (ix p) (by omega) (by omega)
 have hj2 := h j (by omega) hj
 rcases Vf L p (inc (atI L (ix p) 0)) j with e | e <;> rw [e]
 ·exact TT.2 (QU (TT.1 hj1) (hsm _ j1))
 ·exact hj2
theorem Zz {r : Rul} {s : Inn} {c : Bool} (h : InnOk r s) (hb : inR s.bowler s.bowled.length = true) (h1 : s.complete ≤ 999999900) (h2 : s.ballage ≤ 999999900) (h3 : ∀ j, j < s.bowled.length → atI s.bowled j 0 ≤ 999999900) : InnOk r (B6 r s c).1 := by
 have hsd := GA h
 have rk := (F8 h.code).balls
 have hld := h.ld
 have hio := h.io
 have hbb : btw s.bowler 1 r.side = true := by
  simp only [inR, iLe, Bool.and_eq_true, decide_eq_true_eq] at hb
  exact cn (by omega)
 have hL : FK (cond (EG s.bowlers s.bowlers.length s.bowler) s.bowlers (s.bowlers ++ [[.int s.bowler]])) r.side = true := by
  cases hh : EG s.bowlers s.bowlers.length s.bowler with
  | true => exact h.dw
  | false => exact dn h.dw hbb hh
 have hbd : FU Et (cond c (Am s.bowled s.bowler (inc (atI s.bowled (ix s.bowler) 0))) s.bowled) = false := by
  cases c with
  | false => exact h.bowled
  | true => exact bE (n := 0) h.bowled hb (by omega) h3
 have hbl : ((cond c (Am s.bowled s.bowler (inc (atI s.bowled (ix s.bowler) 0))) s.bowled).length : Int) = r.side := by
  cases c with
  | false => exact hld
  | true => show ((Am _ _ _).length : Int) = _; rw [BU]; exact hld
 have hag : Ar (cond c (inc s.ballage) s.ballage) := by
  cases c with
  | false => exact h.ballage
  | true => exact QU h.ballage h2
 have hi1 : inc s.inover = s.inover + 1 := BD (by omega) (by omega)
 have ho : 0 ≤ (cond c (inc s.inover) s.inover : Int) ∧ (cond c (inc s.inover) s.inover : Int) ≤ r.balls := by
  cases c <;> simp only [cond_true, cond_false] <;> omega
 unfold B6
 rw [hb, h.code]
 cases hlt : iLt (cond c (inc s.inover) s.inover) r.balls with
 | true =>
  have hio2 : 0 ≤ (cond c (inc s.inover) s.inover : Int) ∧ (cond c (inc s.inover) s.inover : Int) ≤ r.balls - 1 := by
   simp only [iLt, decide_eq_true_eq] at hlt
   omega
  simp only [Bool.not_true, beq_self_eq_true, Bool.or_self, cond_false, hlt, cond_true]
  exact { h with ld := hbl, dw := hL, io := hio2, ballage := hag, bowled := hbd }
 | false =>
  have hcm := QU h.complete h1
  have hz : (0 : Int) ≤ 0 ∧ (0 : Int) ≤ r.balls - 1 := by omega
  have hz2 : (0 : Int) ≤ 0 ∧ (0 : Int) ≤ r.side := by omega
  simp only [Bool.not_true, beq_self_eq_true, Bool.or_self, cond_false, hlt]
  exact { h with ld := hbl, dw := rfl, df := hL, io := hz, ballage := hag, bowled := hbd, complete := hcm, bow := hz2 }
theorem Zy {r : Rul} {s : Inn} (h : InnOk r s) : InnOk r (II s) := by
 have c := KP (OE (OZ h)) h.lb h.ot h.st
 exact { h with st := h.ot, ot := h.st, bat := c }
theorem au {d : Del} (h : (E7 d == 0) = true) : (0 ≤ d.runs ∧ d.runs ≤ 7) ∧ (0 ≤ d.short ∧ d.short ≤ d.runs) ∧ (d.boundary = 0 ∨ d.boundary = 4 ∨ d.boundary = 6) := by
 unfold E7 at h
 cases h1 : (iLt d.type 1 || iLt 3 d.type || iLt 3 d.source || iLt 10 d.how || !btw d.sector 0 8) with
 | true => rw [h1] at h; cases h
 | false =>
  cases h2 : (!btw d.runs 0 7 || !btw d.short 0 d.runs || (!(d.boundary == 0) && !(d.boundary == 4) && !(d.boundary == 6))) with
  | true => rw [h1, h2] at h; cases h
  | false =>
   rw [Bool.or_eq_false_iff, Bool.or_eq_false_iff, Bool.not_eq_false', Bool.not_eq_false', HB, HB, Bool.and_eq_false_iff, Bool.and_eq_false_iff, Bool.not_eq_false', Bool.not_eq_false', Bool.not_eq_false', beq_iff_eq, beq_iff_eq, beq_iff_eq] at h2
   exact ⟨h2.1.1, h2.1.2, by rcases h2.2 with (h3 | h3) | h3 <;> simp [h3]⟩
theorem XH {r : Rul} {d : Del} (rk : RulOk r) (h : (E7 d == 0) = true) : (0 ≤ (Ad r d).wides ∧ (Ad r d).wides ≤ 18) ∧ (0 ≤ (Ad r d).noballs ∧ (Ad r d).noballs ≤ 5) ∧ (0 ≤ (Ad r d).byes ∧ (Ad r d).byes ≤ 13) ∧ (0 ≤ (Ad r d).legbyes ∧ (Ad r d).legbyes ≤ 13) ∧ (0 ≤ Ob (Ad r d) ∧ Ob (Ad r d) ≤ 62) := by
 obtain ⟨h1, h2, h3⟩ := au h
 have hc : Ad r d = Xs r d := by unfold Ad; rw [h]; rfl
 have hw := rk.wide
 have hn := rk.noball
 have e1 : IntKind.i64.wrap (IntKind.i64.wrap (d.runs - d.short) + d.boundary) = d.runs - d.short + d.boundary := by
  rw [BD (n := d.runs - d.short) (by omega) (by omega)]
  exact BD (by omega) (by omega)
 have e2 : IntKind.i64.wrap (r.wide + (d.runs - d.short + d.boundary)) = r.wide + (d.runs - d.short + d.boundary) := BD (by omega) (by omega)
 rw [hc]
 unfold Ob Xs
 simp only [e1, e2]
 generalize hnn : d.runs - d.short + d.boundary = n
 have hn0 : 0 ≤ n ∧ n ≤ 13 := by omega
 have q : ∀ (b : Bool) (x : Int), (cond b x 0 : Int) = x ∨ (cond b x 0 : Int) = 0 := fun b x => by cases b <;> simp
 have a1 := q (!(d.type == 2) && d.source == 1) n
 have a2 := q (d.type == 2) (r.wide + n)
 have a3 := q (d.type == 3) r.noball
 have a4 := q (!(d.type == 2) && d.source == 2) n
 have a5 := q (!(d.type == 2) && d.source == 3) n
 generalize (cond (!(d.type == 2) && d.source == 1) n 0 : Int) = x1 at *
 generalize (cond (d.type == 2) (r.wide + n) 0 : Int) = x2 at *
 generalize (cond (d.type == 3) r.noball 0 : Int) = x3 at *
 generalize (cond (!(d.type == 2) && d.source == 2) n 0 : Int) = x4 at *
 generalize (cond (!(d.type == 2) && d.source == 3) n 0 : Int) = x5 at *
 rw [BD (n := x1 + x2) (by omega) (by omega), BD (n := x1 + x2 + x3) (by omega) (by omega), BD (n := x1 + x2 + x3 + x4) (by omega) (by omega), BD (n := x1 + x2 + x3 + x4 + x5) (by omega) (by omega)]
 omega
theorem dg {r : Rul} {s : Inn} {d : Del} (h : InnOk r s) (hs : Shp s.batters) (sm : Small s) (hbeg : B3 s.batters = true) (hr : (GD r s d == 0) = true) : InnOk r (aZ r s d) := by
 obtain ⟨q1, q2, q3, q4, q5, q6⟩ := XJ hr
 obtain ⟨z1, z2⟩ := eF q1 hbeg
 rw [beq_eq_false_iff_ne] at z1 z2
 obtain ⟨k, _⟩ := aU (d := d) h hs z1 z2 (fun hd => Zw q5 hd)
 obtain ⟨k1, k2, k3, k4, k5, k6, k7, k8, k9, k10⟩ := Up s d
 have kb : (Aw s d).ballage = s.ballage := by
  unfold Aw
  cases (!(d.runs.tmod 2 == 0) != d.crossed) <;> exact P_c (P := fun x : Inn => x.ballage = s.ballage) _ _ _ rfl (P_c (P := fun x : Inn => x.ballage = s.ballage) _ _ _ rfl rfl)
 have hin := W0 h q2
 have ho := Zz (c := (Ad r d).counts) k (by rw [k9, k10]; exact hin) (by rw [k7]; exact sm.complete) (by rw [kb]; exact sm.ballage) (by rw [k10]; exact sm.bowled)
 obtain ⟨n1, n2, n3, n4, n5⟩ := XH (F8 h.code) q4
 have m1 := IE h.runs sm.runs n5.1 (by omega)
 have m2 := IE h.wides sm.wides n1.1 (by omega)
 have m3 := IE h.noballs sm.noballs n2.1 (by omega)
 have m4 := IE h.byes sm.byes n3.1 (by omega)
 have m5 := IE h.legbyes sm.legbyes n4.1 (by omega)
 simp only [aZ, m1.1, m2.1, m3.1, m4.1, m5.1]
 generalize B6 r (Aw s d) (Ad r d).counts = o at ho ⊢
 obtain ⟨o1, o2⟩ := o
 cases o2 with
 | false => exact { ho with runs := m1.2, wides := m2.2, noballs := m3.2, byes := m4.2, legbyes := m5.2 }
 | true => exact { Zy ho with runs := m1.2, wides := m2.2, noballs := m3.2, byes := m4.2, legbyes := m5.2 }
end Go.Px
end
section
namespace Go.Px
set_option maxRecDepth 100000
theorem bo {r : Rul} {s : Inn} {p : Int} (h : InnOk r s) (hl : ((Kp r s p).2 == 0) = true) : InnOk r (Kp r s p).1 := by
 have hl2 : (IQ r s p == 0) = true := hl
 unfold Kp
 rw [hl2]
 have hp : inR p s.bowled.length = true := by
  unfold IQ at hl2
  cases hp : inR p s.bowled.length with
  | true => rfl
  | false => rw [hp] at hl2; cases hl2
 have hld := h.ld
 simp only [inR, iLe, Bool.and_eq_true, decide_eq_true_eq] at hp
 have hb : 0 ≤ p ∧ p ≤ r.side := by omega
 exact { h with bow := hb }
theorem YF {r : Rul} {s : Inn} {n : Int} (h : InnOk r s) (hl : ((D2 s n).2 == 0) = true) : InnOk r (D2 s n).1 := by
 unfold D2 at hl ⊢
 cases hb : (iLt n 0 || iLt (IntKind.i64.wrap ((s.subs.length : Int) - 2)) n) with
 | true => rw [hb] at hl; cases hl
 | false =>
  have hsd := GA h
  have hlz := h.lz
  rw [Bool.or_eq_false_iff, BD (by omega) (by omega)] at hb
  simp only [iLt, decide_eq_false_iff_not] at hb
  have hn : Ar n := ⟨by omega, by omega⟩
  exact { h with outside := hn }
theorem Zk {r : Rul} {s : Inn} {p : Int} (h : InnOk r s) (hl : ((GH s p).2 == 0) = true) : InnOk r (GH s p).1 := by
 unfold GH at hl ⊢
 cases hp : inR p s.subs.length with
 | false => rw [hp] at hl; cases hl
 | true =>
  cases h2 : FP s p with
  | true => rw [hp, h2] at hl; cases hl
  | false =>
   cases h3 : (p == s.bowler || p == s.keeper) with
   | true => rw [hp, h2, h3] at hl; cases hl
   | false =>
    have hlz := h.lz
    simp only [inR, iLe, Bool.and_eq_true, decide_eq_true_eq] at hp
    have hb : 0 ≤ p ∧ p ≤ r.side := by omega
    exact { h with kee := hb }
theorem ab {r : Rul} {s : Inn} {p : Int} {on : Bool} (h : InnOk r s) (hl : ((H0 s p on).2 == 0) = true) : InnOk r (H0 s p on).1 := by
 unfold H0 at hl ⊢
 cases hp : inR p s.subs.length with
 | false => rw [hp] at hl; cases hl
 | true =>
  cases h2 : FP s p == on with
  | true => rw [hp, h2] at hl; cases hl
  | false =>
   have hsd := GA h
   have hlz := h.lz
   have l1 : ((bP s.subs p on).length : Int) = r.side := by rw [Yv]; exact hlz
   have hk := h.kee
   have hb := h.bow
   have k1 : 0 ≤ (cond (on && s.keeper == p) 0 s.keeper : Int) ∧ (cond (on && s.keeper == p) 0 s.keeper : Int) ≤ r.side := by cases (on && s.keeper == p) <;> simp only [cond_true, cond_false] <;> omega
   have k2 : 0 ≤ (cond (on && s.bowler == p) 0 s.bowler : Int) ∧ (cond (on && s.bowler == p) 0 s.bowler : Int) ≤ r.side := by cases (on && s.bowler == p) <;> simp only [cond_true, cond_false] <;> omega
   exact { h with lz := l1, kee := k1, bow := k2 }
theorem Yf {r : Rul} {s : Inn} (h : InnOk r s) (hl : ((EL r s).2 == 0) = true) : InnOk r (EL r s).1 := by
 unfold EL at hl ⊢
 cases hb : (!(Ap r == 0) || r.newball == 0 || iLt s.ballage (IntKind.i64.wrap (r.newball * r.balls))) with
 | true => rw [hb] at hl; cases hl
 | false =>
  have hz : Ar 0 := ⟨by omega, by omega⟩
  exact { h with ballage := hz }
theorem YS {r : Rul} {s : Inn} {n : Int} (h : InnOk r s) (hl : ((D5 r s n).2 == 0) = true) : InnOk r (D5 r s n).1 := by
 unfold D5 at hl ⊢
 cases h1 : n == s.side with
 | false => rw [h1] at hl; cases hl
 | true =>
  cases h2 : r.overs == 0 with
  | false => rw [h1, h2] at hl; cases hl
  | true =>
   have h4 : (4 : Int) ≤ 5 := by omega
   exact { h with ending := h4 }
theorem Yn {r : Rul} {s : Inn} (h : InnOk r s) (sm : Small s) : InnOk r (Mf s) := by
 have m1 := IE h.runs sm.runs (y := 5) (by omega) (by omega)
 have m2 := IE h.pens sm.pens (y := 5) (by omega) (by omega)
 unfold Mf
 rw [m1.1, m2.1]
 exact { h with runs := m1.2, pens := m2.2 }
theorem Yr {r : Rul} {s : Inn} {n m : Int} (h : InnOk r s) (sm : Small s) (hl : ((EM s n m).2 == 0) = true) : InnOk r (EM s n m).1 := by
 unfold EM at hl ⊢
 cases h1 : m == 5 with
 | false => rw [h1] at hl; cases hl
 | true =>
  cases h2 : n == s.side with
  | true => exact Yn h sm
  | false =>
   have m1 := IE h.target sm.target (y := 5) (by omega) (by omega)
   have ht : Ar (cond (iLt 0 s.target) (IntKind.i64.wrap (s.target + 5)) s.target) := by
    rw [m1.1]
    cases iLt 0 s.target with
    | true => exact m1.2
    | false => exact h.target
   exact { h with target := ht }
theorem Zb {r : Rul} {s : Inn} {n : Int} {b : Bool} (h : InnOk r s) (sm : Small s) (hl : ((Ej r s n b).2 == 0) = true) : InnOk r (Ej r s n b).1 := by
 unfold Ej at hl ⊢
 cases h1 : (!s.fresh || iLe r.reviews (cond (n == 2) s.rev2 s.rev1)) with
 | true => rw [h1] at hl; cases hl
 | false =>
  cases b with
  | true => exact h
  | false =>
   have m1 : Ar (cond (n == 1) (inc s.rev1) s.rev1) := by
    cases n == 1 with
    | true => exact QU h.rev1 sm.rev1
    | false => exact h.rev1
   have m2 : Ar (cond (n == 2) (inc s.rev2) s.rev2) := by
    cases n == 2 with
    | true => exact QU h.rev2 sm.rev2
    | false => exact h.rev2
   exact { h with rev1 := m1, rev2 := m2 }
theorem ZT {r : Rul} {s : Inn} {n m : Int} (h : InnOk r s) (hn : n ≤ 100000) (hm : 0 ≤ m) (hl : ((Fy r s n m).2 == 0) = true) : InnOk r (Fy r s n m).1 := by
 unfold Fy at hl ⊢
 cases h1 : (r.overs == 0 || (n == 0 && m == 0)) with
 | true => rw [h1] at hl; cases hl
 | false =>
  cases h2 : (iLt 0 n && (s.target == 0 || iLe n s.runs)) with
  | true => rw [h1, h2] at hl; cases hl
  | false =>
   cases h3 : (iLt 0 m && (iLt r.overs m || iLt (IntKind.i64.wrap (m * r.balls)) (VP r.balls s.complete s.inover))) with
   | true => rw [h1, h2, h3] at hl; cases hl
   | false =>
    rw [Bool.or_eq_false_iff] at h1
    have m1 : Ar (cond (iLt 0 n) n s.target) := by
     cases hq : iLt 0 n with
     | true => simp only [iLt, decide_eq_true_eq] at hq; exact ⟨by show 0 ≤ n; omega, by show n ≤ _; omega⟩
     | false => exact h.target
    have m2 : QR r.overs (cond (iLt 0 m) m s.overs) = true := by
     cases hq : iLt 0 m with
     | false => exact h.ov
     | true =>
      rw [hq, Bool.true_and, Bool.or_eq_false_iff] at h3
      have h4 := h3.1
      simp only [iLt, decide_eq_true_eq, decide_eq_false_iff_not] at hq h4
      unfold QR
      rw [h1.1]
      exact cn ⟨by show 1 ≤ m; omega, by show m ≤ _; omega⟩
    exact { h with target := m1, ov := m2 }
theorem fW (r : Rul) (s : Inn) : Yk r s ≤ 5 := by
 unfold Yk bT
 cases (!FA r s) with
 | true => simp only [cond_true]; omega
 | false =>
  cases (iLt 0 s.target && iLe s.target s.runs) with
  | true => simp only [cond_true, cond_false]; omega
  | false =>
   cases (Cx s.batters s.striker s.other && ((C5 s.batters s.batters.length).length : Int) == 0) with
   | true => simp only [cond_true, cond_false]; omega
   | false => cases (iLt 0 s.overs && iLe s.overs s.complete) <;> simp only [cond_true, cond_false] <;> omega
theorem Zd {r : Rul} {s : Inn} {b : Bool} (h : InnOk r s) : InnOk r (Qa r s b) := by
 have he : (cond (s.ending == 0) (Yk r (U7 s b)) s.ending : Int) ≤ 5 := by
  cases s.ending == 0 with
  | true => exact fW _ _
  | false => exact h.ending
 exact { h with ending := he }
theorem XD {e : Ev} (h : (evS e == 0) = true) (hk : e.kind = 15) : e.runs ≤ 100000 ∧ 0 ≤ e.overs := by
 have h0 := Nr h
 unfold evS at h
 rw [h0] at h
 cases h1 : WE e with
 | true => rw [h1] at h; cases h
 | false =>
  cases h2 : Q0 e with
  | true => rw [h1, h2] at h; cases h
  | false =>
   unfold Q0 at h2
   rw [Bool.or_eq_false_iff, Bool.or_eq_false_iff, Bool.or_eq_false_iff, Bool.or_eq_false_iff] at h2
   have h3 := h2.2.2.2.1
   have h4 := h2.2.2.2.2
   rw [hk, show uR 15 = true from rfl, Bool.and_true] at h3
   rw [hk, show uV 15 = true from rfl, Bool.and_true] at h4
   rw [Bool.not_eq_false', HB] at h3 h4
   exact ⟨h3.2, h4.1⟩
theorem W9 {r : Rul} {s : Inn} {e : Ev} (hl : ((Av r s e).2 == 0) = true) (hs : Shp s.batters) (sm : Small s) : InnOk r (Av r s e).1 := by
 obtain ⟨hv, he, hn, hw, hp, hst⟩ := aP hl
 have h := Ju.1 hv
 rw [hst]
 refine Zd ?_
 have hr := XD he
 have hbg : (e.kind == 2) = false → B3 s.batters = true := dT hw
 have hk := QP (Nr he)
 unfold PC at hw
 unfold CS at hp ⊢
 rcases hk with hk | hk | hk | hk | hk | hk | hk | hk | hk | hk | hk | hk | hk | hk | hk | hk <;> rw [hk] at hp hw hbg ⊢
 ·cases hw
 ·exact bz h hs hp
 ·exact bo h hp
 ·obtain ⟨q1, q2⟩ := aN (r := r) (s := s) (d := e.ball) hp
  have := dg h hs sm (hbg rfl) q1
  rw [← q2] at this
  exact this
 ·cases hy : e.yes with
  | true => rw [hy] at hp; exact YZ h hs hp
  | false => rw [hy] at hp; exact bC h hs hp
 ·exact Zh h hs hp
 ·exact YF h hp
 ·exact Zk h hp
 ·exact ab h hp
 ·exact Yf h hp
 ·exact YS h hp
 ·cases hw
 ·exact Yr h sm hp
 ·exact Zb h sm hp
 ·exact ZT h (hr hk).1 (hr hk).2 hp
 ·cases hw
end Go.Px
end
