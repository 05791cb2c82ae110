/- Part 10. -/
import Derived.Test.YtopmcbahdgfleaaGreatPart09
set_option linter.unusedVariables false
set_option linter.unusedSimpArgs false
section
namespace Go.Px
set_option maxRecDepth 100000
structure Lens (s t : Inn) : Prop where
 bt : t.batters.length = s.batters.length
 bd : t.bowled.length = s.bowled.length
 sb : t.subs.length = s.subs.length
 bw : t.bowlers.length ≤ s.bowlers.length + 1
 bf : t.before.length ≤ s.before.length + s.bowlers.length + 1
theorem Lens.refl (s : Inn) : Lens s s := ⟨rfl, rfl, rfl, by omega, by omega⟩
theorem P_c {α : Type} {P : α → Prop} (b : Bool) (x y : α) (hx : P x) (hy : P y) : P (cond b x y) := by cases b <;> assumption
theorem YA (s : Inn) (d : Del) : Lens s (Ak s d) := by
 have hb : ∀ (b : Bool), (cond b (K8 s.batters s.striker 2) s.batters).length = s.batters.length := fun b => by cases b <;> simp [JO]
 have hc : ∀ (b : Bool), (cond b (K8 s.batters s.other 2) s.batters).length = s.batters.length := fun b => by cases b <;> simp [JO]
 unfold Ak
 cases (!(d.runs.tmod 2 == 0) != d.crossed) <;> refine P_c _ _ _ ⟨hb _, rfl, rfl, ?_, ?_⟩ (P_c _ _ _ ⟨hc _, rfl, rfl, ?_, ?_⟩ ⟨rfl, rfl, rfl, ?_, ?_⟩) <;> simp <;> omega
theorem Wt (r : Rul) (s : Inn) (c : Bool) : Lens s (Ax r s c).1 := by
 have hl : (cond (IG s.bowlers s.bowlers.length s.bowler) s.bowlers (s.bowlers ++ [[.int s.bowler]])).length ≤ s.bowlers.length + 1 := by
  cases IG s.bowlers s.bowlers.length s.bowler <;> simp
 have hd : (cond c (K8 s.bowled s.bowler (inc (atI s.bowled (ix s.bowler) 0))) s.bowled).length = s.bowled.length := by cases c <;> simp [JO]
 unfold Ax
 refine P_c (P := fun x : Inn × Bool => Lens s x.1) _ _ _ (Lens.refl s) (P_c (P := fun x : Inn × Bool => Lens s x.1) _ _ _ ⟨rfl, hd, rfl, hl, by simp; omega⟩ ⟨rfl, hd, rfl, by simp, ?_⟩)
 simp only
 omega
def U7 (a b c d : Int) : Int := cond (!(a == 0)) a (cond (!(b == 0)) b (cond (!(c == 0)) c (cond (!(d == 0)) d 0)))
def Gj (r : Rul) (s : Inn) (d : Del) : Int :=
 cond (FL s.batters s.striker s.other) 6 (cond (s.bowler == 0) 7 (U7 (N0 r s) (HT d) (NU d s.freehit) (Nj s d)))
theorem TQ {N : Nat} {r1 r2 r3 r4 r5 r6 r7 r9 r10 r11 r12 : Int} {r8 : Bool} {r0 : ByteArray} {r13 : Rows} {s0 s1 s2 s3 s4 s5 s6 s7 s8 s9 s10 s11 s12 s13 s15 s21 s22 s23 s25 s26 s27 : Int} {s18 s20 : Bool} {s14 s16 s17 s19 s24 : Rows} {d0 d1 d2 d3 d4 d6 d7 d8 d9 d11 : Int} {d5 d10 : Bool} (h : Fit s14 s16 s17 s19 s24) (hN : 2097152 < N) (h13 : r13.length ≤ 1048576) : DT N [.str r0, .int r1, .int r2, .int r3, .int r4, .int r5, .int r6, .int r7, .bool r8, .int r9, .int r10, .int r11, .int r12, .rows r13, .int s0, .int s1, .int s2, .int s3, .int s4, .int s5, .int s6, .int s7, .int s8, .int s9, .int s10, .int s11, .int s12, .int s13, .rows s14, .int s15, .rows s16, .rows s17, .bool s18, .rows s19, .bool s20, .int s21, .int s22, .int s23, .rows s24, .int s25, .int s26, .int s27, .int d0, .int d1, .int d2, .int d3, .int d4, .bool d5, .int d6, .int d7, .int d8, .int d9, .bool d10, .int d11] = some [.int (Gj (⟨r0, r1, r2, r3, r4, r5, r6, r7, r8, r9, r10, r11, r12, r13⟩ : Rul) (⟨s0, s1, s2, s3, s4, s5, s6, s7, s8, s9, s10, s11, s12, s13, s14, s15, s16, s17, s18, s19, s20, s21, s22, s23, s24, s25, s26, s27⟩ : Inn) (⟨d0, d1, d2, d3, d4, d5, d6, d7, d8, d9, d10, d11⟩ : Del))] := by
 show FB (std (Bg N) N) (xOf _) = _
 generalize hres : (some [.int (Gj (⟨r0, r1, r2, r3, r4, r5, r6, r7, r8, r9, r10, r11, r12, r13⟩ : Rul) (⟨s0, s1, s2, s3, s4, s5, s6, s7, s8, s9, s10, s11, s12, s13, s14, s15, s16, s17, s18, s19, s20, s21, s22, s23, s24, s25, s26, s27⟩ : Inn) (⟨d0, d1, d2, d3, d4, d5, d6, d7, d8, d9, d10, d11⟩ : Del))] : Option (List PV)) = RR
 simp only [FB, Jp, JB, Kj, HR, Ki, std, xOf, PXb, PA h.bt hN, XN h hN h13, OC, QS hN, XA h]
 subst hres; simp only [Gj]
 cases FL s14 s12 s13 <;> try rfl
 cases s15 == 0 <;> try rfl
 simp only [PXb]
 generalize N0 (⟨r0, r1, r2, r3, r4, r5, r6, r7, r8, r9, r10, r11, r12, r13⟩ : Rul) (⟨s0, s1, s2, s3, s4, s5, s6, s7, s8, s9, s10, s11, s12, s13, s14, s15, s16, s17, s18, s19, s20, s21, s22, s23, s24, s25, s26, s27⟩ : Inn) = a
 generalize HT (⟨d0, d1, d2, d3, d4, d5, d6, d7, d8, d9, d10, d11⟩ : Del) = b
 generalize NU (⟨d0, d1, d2, d3, d4, d5, d6, d7, d8, d9, d10, d11⟩ : Del) s20 = c
 generalize Nj (⟨s0, s1, s2, s3, s4, s5, s6, s7, s8, s9, s10, s11, s12, s13, s14, s15, s16, s17, s18, s19, s20, s21, s22, s23, s24, s25, s26, s27⟩ : Inn) (⟨d0, d1, d2, d3, d4, d5, d6, d7, d8, d9, d10, d11⟩ : Del) = e
 refine Ae (CW (len := 4) (fun i => cond (!(atI [[.int a], [.int b], [.int c], [.int e]] i 0 == 0)) (some [.int (atI [[.int a], [.int b], [.int c], [.int e]] i 0)]) none) ?_ ?_ 4 0 N (by omega) (by omega)) ?_
 ·intro self
  rfl
 ·intro i self hi
  simp only [PXb, As (show i ≤ 1099511627776 by omega), List.length_cons, List.length_nil, Nat.reduceAdd, BL hi, Ap hi, CK]
  cases atI [[.int a], [.int b], [.int c], [.int e]] i 0 == 0 <;> rfl
 ·refine (VJ _).trans (congrArg (fun z => some [PV.int z]) ?_)
  unfold U7
  simp only [Bm]
  rw [show atI [[.int a], [.int b], [.int c], [.int e]] 0 0 = a from rfl, show atI [[.int a], [.int b], [.int c], [.int e]] (0 + 1) 0 = b from rfl, show atI [[.int a], [.int b], [.int c], [.int e]] (0 + 1 + 1) 0 = c from rfl, show atI [[.int a], [.int b], [.int c], [.int e]] (0 + 1 + 1 + 1) 0 = e from rfl]
  cases a == 0 <;> try rfl
  cases b == 0 <;> try rfl
  cases c == 0 <;> try rfl
  cases e == 0 <;> rfl
theorem QM {s t : Inn} (l : Lens s t) (h : s.Fit) (hw : s.before.length + s.bowlers.length ≤ 1048575) : t.Fit := ⟨l.bt ▸ h.bt, by have := l.bw; omega, by have := l.bf; omega, l.bd ▸ h.bd, l.sb ▸ h.sb⟩
theorem cM (s : Inn) (d : Del) : (Ak s d).bowlers = s.bowlers := by
 unfold Ak
 cases (!(d.runs.tmod 2 == 0) != d.crossed) <;> exact P_c (P := fun x : Inn => x.bowlers = s.bowlers) _ _ _ rfl (P_c (P := fun x : Inn => x.bowlers = s.bowlers) _ _ _ rfl rfl)
theorem cK (s : Inn) (d : Del) : (Ak s d).before = s.before := by
 unfold Ak
 cases (!(d.runs.tmod 2 == 0) != d.crossed) <;> exact P_c (P := fun x : Inn => x.before = s.before) _ _ _ rfl (P_c (P := fun x : Inn => x.before = s.before) _ _ _ rfl rfl)
@[reducible] def Ss (t : Inn) (a b e f g : Int) : Inn := ⟨t.side, t.target, t.overs, a, t.wickets, b, e, f, g, t.pens, t.complete, t.inover, t.striker, t.other, t.batters, t.bowler, t.bowlers, t.before, t.fresh, t.bowled, t.freehit, t.ballage, t.keeper, t.outside, t.subs, t.rev1, t.rev2, t.ending⟩
def Le (r : Rul) (s : Inn) (d : Del) : Inn × Int :=
  cond (!(Gj r s d == 0)) (s, Gj r s d)
    (let c := AE r d
     let t := Ak s d
     let o := Ax r (Ss t (IntKind.i64.wrap (t.runs + HI c)) (IntKind.i64.wrap (t.wides + c.wides)) (IntKind.i64.wrap (t.noballs + c.noballs)) (IntKind.i64.wrap (t.byes + c.byes)) (IntKind.i64.wrap (t.legbyes + c.legbyes))) c.counts
     let t : Inn := cond o.2 (LR o.1) o.1
     ({ t with freehit := cond (d.type == 1) false (cond (d.type == 3 && r.freehit) true o.1.freehit) }, 0))
theorem WH {N : Nat} {r1 r2 r3 r4 r5 r6 r7 r9 r10 r11 r12 : Int} {r8 : Bool} {r0 : ByteArray} {r13 : Rows} {s0 s1 s2 s3 s4 s5 s6 s7 s8 s9 s10 s11 s12 s13 s15 s21 s22 s23 s25 s26 s27 : Int} {s18 s20 : Bool} {s14 s16 s17 s19 s24 : Rows} {d0 d1 d2 d3 d4 d6 d7 d8 d9 d11 : Int} {d5 d10 : Bool} (h : Fit s14 s16 s17 s19 s24) (hw : s17.length + s16.length ≤ 1000000) (hN : 2097152 < N) (hs : r0.size ≤ 1048576) (h13 : r13.length ≤ 1048576) : FN N [.str r0, .int r1, .int r2, .int r3, .int r4, .int r5, .int r6, .int r7, .bool r8, .int r9, .int r10, .int r11, .int r12, .rows r13, .int s0, .int s1, .int s2, .int s3, .int s4, .int s5, .int s6, .int s7, .int s8, .int s9, .int s10, .int s11, .int s12, .int s13, .rows s14, .int s15, .rows s16, .rows s17, .bool s18, .rows s19, .bool s20, .int s21, .int s22, .int s23, .rows s24, .int s25, .int s26, .int s27, .int d0, .int d1, .int d2, .int d3, .int d4, .bool d5, .int d6, .int d7, .int d8, .int d9, .bool d10, .int d11] = some (A2 (Le (⟨r0, r1, r2, r3, r4, r5, r6, r7, r8, r9, r10, r11, r12, r13⟩ : Rul) (⟨s0, s1, s2, s3, s4, s5, s6, s7, s8, s9, s10, s11, s12, s13, s14, s15, s16, s17, s18, s19, s20, s21, s22, s23, s24, s25, s26, s27⟩ : Inn) (⟨d0, d1, d2, d3, d4, d5, d6, d7, d8, d9, d10, d11⟩ : Del))) := by
 show Hx (std (BR N) N) (xOf _) = _
 generalize hres : (some (A2 (Le (⟨r0, r1, r2, r3, r4, r5, r6, r7, r8, r9, r10, r11, r12, r13⟩ : Rul) (⟨s0, s1, s2, s3, s4, s5, s6, s7, s8, s9, s10, s11, s12, s13, s14, s15, s16, s17, s18, s19, s20, s21, s22, s23, s24, s25, s26, s27⟩ : Inn) (⟨d0, d1, d2, d3, d4, d5, d6, d7, d8, d9, d10, d11⟩ : Del))) : Option (List PV)) = RR
 have l1 := YA (⟨s0, s1, s2, s3, s4, s5, s6, s7, s8, s9, s10, s11, s12, s13, s14, s15, s16, s17, s18, s19, s20, s21, s22, s23, s24, s25, s26, s27⟩ : Inn) (⟨d0, d1, d2, d3, d4, d5, d6, d7, d8, d9, d10, d11⟩ : Del)
 have f1 := QM l1 h (by simp only; omega)
 have w1 : (Ak (⟨s0, s1, s2, s3, s4, s5, s6, s7, s8, s9, s10, s11, s12, s13, s14, s15, s16, s17, s18, s19, s20, s21, s22, s23, s24, s25, s26, s27⟩ : Inn) (⟨d0, d1, d2, d3, d4, d5, d6, d7, d8, d9, d10, d11⟩ : Del)).bowlers.length = s16.length := congrArg List.length (cM _ _)
 have w2 : (Ak (⟨s0, s1, s2, s3, s4, s5, s6, s7, s8, s9, s10, s11, s12, s13, s14, s15, s16, s17, s18, s19, s20, s21, s22, s23, s24, s25, s26, s27⟩ : Inn) (⟨d0, d1, d2, d3, d4, d5, d6, d7, d8, d9, d10, d11⟩ : Del)).before.length = s17.length := congrArg List.length (cK _ _)
 have l2 := fun (x : Rul) (c : Bool) (a b e f g : Int) => Wt x (Ss (Ak (⟨s0, s1, s2, s3, s4, s5, s6, s7, s8, s9, s10, s11, s12, s13, s14, s15, s16, s17, s18, s19, s20, s21, s22, s23, s24, s25, s26, s27⟩ : Inn) (⟨d0, d1, d2, d3, d4, d5, d6, d7, d8, d9, d10, d11⟩ : Del)) a b e f g) c
 have f2 := fun (x : Rul) (c : Bool) (a b e f g : Int) => QM (l2 x c a b e f g) f1 (show (Ak (⟨s0, s1, s2, s3, s4, s5, s6, s7, s8, s9, s10, s11, s12, s13, s14, s15, s16, s17, s18, s19, s20, s21, s22, s23, s24, s25, s26, s27⟩ : Inn) (⟨d0, d1, d2, d3, d4, d5, d6, d7, d8, d9, d10, d11⟩ : Del)).before.length + (Ak (⟨s0, s1, s2, s3, s4, s5, s6, s7, s8, s9, s10, s11, s12, s13, s14, s15, s16, s17, s18, s19, s20, s21, s22, s23, s24, s25, s26, s27⟩ : Inn) (⟨d0, d1, d2, d3, d4, d5, d6, d7, d8, d9, d10, d11⟩ : Del)).bowlers.length ≤ 1048575 by omega)
 simp only [Hx, LD, Kg, Jw, KF, NE, NO, K5, std, xOf, PXb, PXc, PXn, PXm, Nat.reduceAdd, Int.reduceBEq, TQ h hN h13, Bj h, Mr, YW h, OJ, Cre.ls, Yc f1 (show (Ak (⟨s0, s1, s2, s3, s4, s5, s6, s7, s8, s9, s10, s11, s12, s13, s14, s15, s16, s17, s18, s19, s20, s21, s22, s23, s24, s25, s26, s27⟩ : Inn) (⟨d0, d1, d2, d3, d4, d5, d6, d7, d8, d9, d10, d11⟩ : Del)).bowlers.length ≤ 1048575 by omega) hN hs, dK, Vs (f2 _ _ _ _ _ _ _)]
 subst hres; simp only [Le, Ss]
 cases Gj (⟨r0, r1, r2, r3, r4, r5, r6, r7, r8, r9, r10, r11, r12, r13⟩ : Rul) (⟨s0, s1, s2, s3, s4, s5, s6, s7, s8, s9, s10, s11, s12, s13, s14, s15, s16, s17, s18, s19, s20, s21, s22, s23, s24, s25, s26, s27⟩ : Inn) (⟨d0, d1, d2, d3, d4, d5, d6, d7, d8, d9, d10, d11⟩ : Del) == 0 with
 | false => rfl
 | true =>
  obtain ⟨o, ho⟩ : ∃ o, o = Ax (⟨r0, r1, r2, r3, r4, r5, r6, r7, r8, r9, r10, r11, r12, r13⟩ : Rul) (Ss (Ak (⟨s0, s1, s2, s3, s4, s5, s6, s7, s8, s9, s10, s11, s12, s13, s14, s15, s16, s17, s18, s19, s20, s21, s22, s23, s24, s25, s26, s27⟩ : Inn) (⟨d0, d1, d2, d3, d4, d5, d6, d7, d8, d9, d10, d11⟩ : Del)) (IntKind.i64.wrap ((Ak (⟨s0, s1, s2, s3, s4, s5, s6, s7, s8, s9, s10, s11, s12, s13, s14, s15, s16, s17, s18, s19, s20, s21, s22, s23, s24, s25, s26, s27⟩ : Inn) (⟨d0, d1, d2, d3, d4, d5, d6, d7, d8, d9, d10, d11⟩ : Del)).runs + HI (AE (⟨r0, r1, r2, r3, r4, r5, r6, r7, r8, r9, r10, r11, r12, r13⟩ : Rul) (⟨d0, d1, d2, d3, d4, d5, d6, d7, d8, d9, d10, d11⟩ : Del)))) (IntKind.i64.wrap ((Ak (⟨s0, s1, s2, s3, s4, s5, s6, s7, s8, s9, s10, s11, s12, s13, s14, s15, s16, s17, s18, s19, s20, s21, s22, s23, s24, s25, s26, s27⟩ : Inn) (⟨d0, d1, d2, d3, d4, d5, d6, d7, d8, d9, d10, d11⟩ : Del)).wides + (AE (⟨r0, r1, r2, r3, r4, r5, r6, r7, r8, r9, r10, r11, r12, r13⟩ : Rul) (⟨d0, d1, d2, d3, d4, d5, d6, d7, d8, d9, d10, d11⟩ : Del)).wides)) (IntKind.i64.wrap ((Ak (⟨s0, s1, s2, s3, s4, s5, s6, s7, s8, s9, s10, s11, s12, s13, s14, s15, s16, s17, s18, s19, s20, s21, s22, s23, s24, s25, s26, s27⟩ : Inn) (⟨d0, d1, d2, d3, d4, d5, d6, d7, d8, d9, d10, d11⟩ : Del)).noballs + (AE (⟨r0, r1, r2, r3, r4, r5, r6, r7, r8, r9, r10, r11, r12, r13⟩ : Rul) (⟨d0, d1, d2, d3, d4, d5, d6, d7, d8, d9, d10, d11⟩ : Del)).noballs)) (IntKind.i64.wrap ((Ak (⟨s0, s1, s2, s3, s4, s5, s6, s7, s8, s9, s10, s11, s12, s13, s14, s15, s16, s17, s18, s19, s20, s21, s22, s23, s24, s25, s26, s27⟩ : Inn) (⟨d0, d1, d2, d3, d4, d5, d6, d7, d8, d9, d10, d11⟩ : Del)).byes + (AE (⟨r0, r1, r2, r3, r4, r5, r6, r7, r8, r9, r10, r11, r12, r13⟩ : Rul) (⟨d0, d1, d2, d3, d4, d5, d6, d7, d8, d9, d10, d11⟩ : Del)).byes)) (IntKind.i64.wrap ((Ak (⟨s0, s1, s2, s3, s4, s5, s6, s7, s8, s9, s10, s11, s12, s13, s14, s15, s16, s17, s18, s19, s20, s21, s22, s23, s24, s25, s26, s27⟩ : Inn) (⟨d0, d1, d2, d3, d4, d5, d6, d7, d8, d9, d10, d11⟩ : Del)).legbyes + (AE (⟨r0, r1, r2, r3, r4, r5, r6, r7, r8, r9, r10, r11, r12, r13⟩ : Rul) (⟨d0, d1, d2, d3, d4, d5, d6, d7, d8, d9, d10, d11⟩ : Del)).legbyes))) (AE (⟨r0, r1, r2, r3, r4, r5, r6, r7, r8, r9, r10, r11, r12, r13⟩ : Rul) (⟨d0, d1, d2, d3, d4, d5, d6, d7, d8, d9, d10, d11⟩ : Del)).counts := ⟨_, rfl⟩
  simp only [Ss, HI] at ho ⊢
  simp only [← ho]
  obtain ⟨o1, o2⟩ := o
  cases o2 <;> cases d0 == 1 <;> cases d0 == 3 <;> cases r8 <;> rfl
theorem Ys (r : Rul) (s : Inn) (b : Bool) (a c d e f : Int) : Ax r (Ss s a c d e f) b = (Ss (Ax r s b).1 a c d e f, (Ax r s b).2) := by
 unfold Ax Ss
 simp only
 cases (!inR s.bowler s.bowled.length || !(Bh r == 0)) with
 | true => rfl
 | false =>
  simp only [cond_false]
  cases iLt (cond b (inc s.inover) s.inover) r.balls <;> rfl
def JK (r : Rul) (s : Inn) (side : Int) : Inn × Int := cond (!(side == s.side)) (s, 2) (cond (!(r.overs == 0)) (s, 20) ({ s with ending := 4 }, 0))
theorem TX {N : Nat} {r1 r2 r3 r4 r5 r6 r7 r9 r10 r11 r12 : Int} {r8 : Bool} {r0 : ByteArray} {r13 : Rows} {s0 s1 s2 s3 s4 s5 s6 s7 s8 s9 s10 s11 s12 s13 s15 s21 s22 s23 s25 s26 s27 : Int} {s18 s20 : Bool} {s14 s16 s17 s19 s24 : Rows} {e0 e1 e2 e3 e5 e6 e7 e8 e9 e10 e11 e13 e14 e15 e16 e18 : Int} {e4 e12 e17 : Bool} (h : Fit s14 s16 s17 s19 s24) : DM N [.str r0, .int r1, .int r2, .int r3, .int r4, .int r5, .int r6, .int r7, .bool r8, .int r9, .int r10, .int r11, .int r12, .rows r13, .int s0, .int s1, .int s2, .int s3, .int s4, .int s5, .int s6, .int s7, .int s8, .int s9, .int s10, .int s11, .int s12, .int s13, .rows s14, .int s15, .rows s16, .rows s17, .bool s18, .rows s19, .bool s20, .int s21, .int s22, .int s23, .rows s24, .int s25, .int s26, .int s27, .int e0, .int e1, .int e2, .int e3, .bool e4, .int e5, .int e6, .int e7, .int e8, .int e9, .int e10, .int e11, .bool e12, .int e13, .int e14, .int e15, .int e16, .bool e17, .int e18] = some (A2 (JK (⟨r0, r1, r2, r3, r4, r5, r6, r7, r8, r9, r10, r11, r12, r13⟩ : Rul) (⟨s0, s1, s2, s3, s4, s5, s6, s7, s8, s9, s10, s11, s12, s13, s14, s15, s16, s17, s18, s19, s20, s21, s22, s23, s24, s25, s26, s27⟩ : Inn) e1)) := by
 show FA (std (Gm N) N) (xOf _) = _
 generalize hres : (some (A2 (JK (⟨r0, r1, r2, r3, r4, r5, r6, r7, r8, r9, r10, r11, r12, r13⟩ : Rul) (⟨s0, s1, s2, s3, s4, s5, s6, s7, s8, s9, s10, s11, s12, s13, s14, s15, s16, s17, s18, s19, s20, s21, s22, s23, s24, s25, s26, s27⟩ : Inn) e1)) : Option (List PV)) = RR
 simp only [FA, Jn, std, xOf, PXb, PXc, PXn, PXm, Nat.reduceAdd, Int.reduceBEq, Bj h]
 subst hres; simp only [JK]
 cases e1 == s0 <;> cases r3 == 0 <;> rfl
def Qg (s : Inn) : Inn := { s with runs := IntKind.i64.wrap (s.runs + 5), pens := IntKind.i64.wrap (s.pens + 5) }
theorem M2 {N : Nat} {s0 s1 s2 s3 s4 s5 s6 s7 s8 s9 s10 s11 s12 s13 s15 s21 s22 s23 s25 s26 s27 : Int} {s18 s20 : Bool} {s14 s16 s17 s19 s24 : Rows} (h : Fit s14 s16 s17 s19 s24) : Be N [.int s0, .int s1, .int s2, .int s3, .int s4, .int s5, .int s6, .int s7, .int s8, .int s9, .int s10, .int s11, .int s12, .int s13, .rows s14, .int s15, .rows s16, .rows s17, .bool s18, .rows s19, .bool s20, .int s21, .int s22, .int s23, .rows s24, .int s25, .int s26, .int s27] = some (Qg (⟨s0, s1, s2, s3, s4, s5, s6, s7, s8, s9, s10, s11, s12, s13, s14, s15, s16, s17, s18, s19, s20, s21, s22, s23, s24, s25, s26, s27⟩ : Inn)).ls := by
 show E8 (std (Gu N) N) (xOf _) = _
 generalize hres : (some (Qg (⟨s0, s1, s2, s3, s4, s5, s6, s7, s8, s9, s10, s11, s12, s13, s14, s15, s16, s17, s18, s19, s20, s21, s22, s23, s24, s25, s26, s27⟩ : Inn)).ls : Option (List PV)) = RR
 simp only [E8, Jr, std, xOf, PXb, PXc, PXn, PXm, Nat.reduceAdd, Int.reduceBEq, Bj h]
 subst hres; simp only [Qg]
 rfl
def JC (s : Inn) (side runs : Int) : Inn × Int :=
 cond (!(runs == 5)) (s, 23) (cond (side == s.side) (Qg s, 0) ({ s with target := cond (iLt 0 s.target) (IntKind.i64.wrap (s.target + 5)) s.target }, 0))
theorem TO {N : Nat} {s0 s1 s2 s3 s4 s5 s6 s7 s8 s9 s10 s11 s12 s13 s15 s21 s22 s23 s25 s26 s27 : Int} {s18 s20 : Bool} {s14 s16 s17 s19 s24 : Rows} {e0 e1 e2 e3 e5 e6 e7 e8 e9 e10 e11 e13 e14 e15 e16 e18 : Int} {e4 e12 e17 : Bool} (h : Fit s14 s16 s17 s19 s24) : DK N [.int s0, .int s1, .int s2, .int s3, .int s4, .int s5, .int s6, .int s7, .int s8, .int s9, .int s10, .int s11, .int s12, .int s13, .rows s14, .int s15, .rows s16, .rows s17, .bool s18, .rows s19, .bool s20, .int s21, .int s22, .int s23, .rows s24, .int s25, .int s26, .int s27, .int e0, .int e1, .int e2, .int e3, .bool e4, .int e5, .int e6, .int e7, .int e8, .int e9, .int e10, .int e11, .bool e12, .int e13, .int e14, .int e15, .int e16, .bool e17, .int e18] = some (A2 (JC (⟨s0, s1, s2, s3, s4, s5, s6, s7, s8, s9, s10, s11, s12, s13, s14, s15, s16, s17, s18, s19, s20, s21, s22, s23, s24, s25, s26, s27⟩ : Inn) e1 e5)) := by
 show E6 (std (D6 N) N) (xOf _) = _
 generalize hres : (some (A2 (JC (⟨s0, s1, s2, s3, s4, s5, s6, s7, s8, s9, s10, s11, s12, s13, s14, s15, s16, s17, s18, s19, s20, s21, s22, s23, s24, s25, s26, s27⟩ : Inn) e1 e5)) : Option (List PV)) = RR
 simp only [E6, IP, Jq, std, xOf, PXb, PXc, PXn, PXm, Nat.reduceAdd, Int.reduceBEq, Bj h, M2 h]
 subst hres; simp only [JC]
 cases e5 == 5 <;> cases e1 == s0 <;> cases iLt 0 s1 <;> rfl
def Jg (r : Rul) (s : Inn) (side : Int) (yes : Bool) : Inn × Int :=
 cond (!s.fresh || iLe r.reviews (cond (side == 2) s.rev2 s.rev1)) (s, 24) (cond (!yes) ({ s with rev1 := cond (side == 1) (inc s.rev1) s.rev1, rev2 := cond (side == 2) (inc s.rev2) s.rev2 }, 0) (s, 0))
theorem wr1 : IntKind.i64.wrap (1 - 1) = 0 := rfl
theorem wr2 : IntKind.i64.wrap (2 - 1) = 1 := rfl
theorem Xn : iIn 0 2 = true := rfl
theorem Xs : iIn 1 2 = true := rfl
theorem UZ {N : Nat} {r1 r2 r3 r4 r5 r6 r7 r9 r10 r11 r12 : Int} {r8 : Bool} {r0 : ByteArray} {r13 : Rows} {s0 s1 s2 s3 s4 s5 s6 s7 s8 s9 s10 s11 s12 s13 s15 s21 s22 s23 s25 s26 s27 : Int} {s18 s20 : Bool} {s14 s16 s17 s19 s24 : Rows} {e0 e1 e2 e3 e5 e6 e7 e8 e9 e10 e11 e13 e14 e15 e16 e18 : Int} {e4 e12 e17 : Bool} (h : Fit s14 s16 s17 s19 s24) (he : e1 = 1 ∨ e1 = 2) : Dz N [.str r0, .int r1, .int r2, .int r3, .int r4, .int r5, .int r6, .int r7, .bool r8, .int r9, .int r10, .int r11, .int r12, .rows r13, .int s0, .int s1, .int s2, .int s3, .int s4, .int s5, .int s6, .int s7, .int s8, .int s9, .int s10, .int s11, .int s12, .int s13, .rows s14, .int s15, .rows s16, .rows s17, .bool s18, .rows s19, .bool s20, .int s21, .int s22, .int s23, .rows s24, .int s25, .int s26, .int s27, .int e0, .int e1, .int e2, .int e3, .bool e4, .int e5, .int e6, .int e7, .int e8, .int e9, .int e10, .int e11, .bool e12, .int e13, .int e14, .int e15, .int e16, .bool e17, .int e18] = some (A2 (Jg (⟨r0, r1, r2, r3, r4, r5, r6, r7, r8, r9, r10, r11, r12, r13⟩ : Rul) (⟨s0, s1, s2, s3, s4, s5, s6, s7, s8, s9, s10, s11, s12, s13, s14, s15, s16, s17, s18, s19, s20, s21, s22, s23, s24, s25, s26, s27⟩ : Inn) e1 e4)) := by
 show Dv (std (HQ N) N) (xOf _) = _
 generalize hres : (some (A2 (Jg (⟨r0, r1, r2, r3, r4, r5, r6, r7, r8, r9, r10, r11, r12, r13⟩ : Rul) (⟨s0, s1, s2, s3, s4, s5, s6, s7, s8, s9, s10, s11, s12, s13, s14, s15, s16, s17, s18, s19, s20, s21, s22, s23, s24, s25, s26, s27⟩ : Inn) e1 e4)) : Option (List PV)) = RR
 rcases he with he | he <;> subst he
 ·simp only [Dv, Ey, std, xOf, PXb, PXc, PXn, PXm, Nat.reduceAdd, Int.reduceBEq, Bj h, wr1, wr2, Xn, Xs]
  subst hres; simp only [Jg, Int.reduceBEq, beq_self_eq_true, cond_true, cond_false]
  cases s18 <;> cases e4 <;> first | rfl | (cases iLe r11 s25 <;> rfl)
 ·simp only [Dv, Ey, std, xOf, PXb, PXc, PXn, PXm, Nat.reduceAdd, Int.reduceBEq, Bj h, wr1, wr2, Xn, Xs]
  subst hres; simp only [Jg, Int.reduceBEq, beq_self_eq_true, cond_true, cond_false]
  cases s18 <;> cases e4 <;> first | rfl | (cases iLe r11 s26 <;> rfl)
theorem U0 {N : Nat} {r1 r2 r3 r4 r5 r6 r7 r9 r10 r11 r12 : Int} {r8 : Bool} {r0 : ByteArray} {r13 : Rows} {s0 s1 s2 s3 s4 s5 s6 s7 s8 s9 s10 s11 s12 s13 s15 s21 s22 s23 s25 s26 s27 : Int} {s18 s20 : Bool} {s14 s16 s17 s19 s24 : Rows}  : Eu N [.str r0, .int r1, .int r2, .int r3, .int r4, .int r5, .int r6, .int r7, .bool r8, .int r9, .int r10, .int r11, .int r12, .rows r13, .int s0, .int s1, .int s2, .int s3, .int s4, .int s5, .int s6, .int s7, .int s8, .int s9, .int s10, .int s11, .int s12, .int s13, .rows s14, .int s15, .rows s16, .rows s17, .bool s18, .rows s19, .bool s20, .int s21, .int s22, .int s23, .rows s24, .int s25, .int s26, .int s27] = some [.int (EZ r4 s10 s11)] := by
 rfl
def K2 (r : Rul) (s : Inn) (runs overs : Int) : Inn × Int :=
  cond (r.overs == 0 || (runs == 0 && overs == 0)) (s, 25) (cond (iLt 0 runs && (s.target == 0 || iLe runs s.runs)) (s, 25)
    (cond (iLt 0 overs && (iLt r.overs overs || iLt (IntKind.i64.wrap (overs * r.balls)) (EZ r.balls s.complete s.inover))) (s, 25)
      ({ s with target := cond (iLt 0 runs) runs s.target, overs := cond (iLt 0 overs) overs s.overs }, 0)))
theorem UN {N : Nat} {r1 r2 r3 r4 r5 r6 r7 r9 r10 r11 r12 : Int} {r8 : Bool} {r0 : ByteArray} {r13 : Rows} {s0 s1 s2 s3 s4 s5 s6 s7 s8 s9 s10 s11 s12 s13 s15 s21 s22 s23 s25 s26 s27 : Int} {s18 s20 : Bool} {s14 s16 s17 s19 s24 : Rows} {e0 e1 e2 e3 e5 e6 e7 e8 e9 e10 e11 e13 e14 e15 e16 e18 : Int} {e4 e12 e17 : Bool} (h : Fit s14 s16 s17 s19 s24) : Dl N [.str r0, .int r1, .int r2, .int r3, .int r4, .int r5, .int r6, .int r7, .bool r8, .int r9, .int r10, .int r11, .int r12, .rows r13, .int s0, .int s1, .int s2, .int s3, .int s4, .int s5, .int s6, .int s7, .int s8, .int s9, .int s10, .int s11, .int s12, .int s13, .rows s14, .int s15, .rows s16, .rows s17, .bool s18, .rows s19, .bool s20, .int s21, .int s22, .int s23, .rows s24, .int s25, .int s26, .int s27, .int e0, .int e1, .int e2, .int e3, .bool e4, .int e5, .int e6, .int e7, .int e8, .int e9, .int e10, .int e11, .bool e12, .int e13, .int e14, .int e15, .int e16, .bool e17, .int e18] = some (A2 (K2 (⟨r0, r1, r2, r3, r4, r5, r6, r7, r8, r9, r10, r11, r12, r13⟩ : Rul) (⟨s0, s1, s2, s3, s4, s5, s6, s7, s8, s9, s10, s11, s12, s13, s14, s15, s16, s17, s18, s19, s20, s21, s22, s23, s24, s25, s26, s27⟩ : Inn) e5 e6)) := by
 show GC (std (Ef N) N) (xOf _) = _
 generalize hres : (some (A2 (K2 (⟨r0, r1, r2, r3, r4, r5, r6, r7, r8, r9, r10, r11, r12, r13⟩ : Rul) (⟨s0, s1, s2, s3, s4, s5, s6, s7, s8, s9, s10, s11, s12, s13, s14, s15, s16, s17, s18, s19, s20, s21, s22, s23, s24, s25, s26, s27⟩ : Inn) e5 e6)) : Option (List PV)) = RR
 simp only [GC, KJ, J9, std, xOf, PXb, PXc, PXn, PXm, Nat.reduceAdd, Int.reduceBEq, Bj h, U0]
 subst hres; simp only [K2]
 cases (r3 == 0 || e5 == 0 && e6 == 0) <;> try rfl
 cases (iLt 0 e5 && (s1 == 0 || iLe e5 s3)) <;> try rfl
 cases iLt 0 e6 <;> cases iLt r3 e6 <;> try rfl
 simp only [PXb, PXc, PXn, PXm, Nat.reduceAdd, Int.reduceBEq]
 cases iLt (IntKind.i64.wrap (e6 * r4)) (EZ r4 s10 s11) <;> rfl
end Go.Px
end
section
namespace Go.Px
set_option maxRecDepth 100000
def Bv (r : Rul) (s : Inn) (e : Ev) : Inn × Int :=
  cond (e.kind == 2) (Qu s e.player e.other) (cond (e.kind == 3) (Qd r s e.player) (cond (e.kind == 4) (Le r s e.ball)
    (cond (e.kind == 5) (cond e.yes (Ha s e.player) (MI s e.player)) (cond (e.kind == 6) (JX s e.player e.yes) (cond (e.kind == 7) (JU s e.runs)
      (cond (e.kind == 8) (LQ s e.player) (cond (e.kind == 9) (OH s e.player e.yes) (cond (e.kind == 10) (JH r s) (cond (e.kind == 11) (JK r s e.side)
        (cond (e.kind == 13) (JC s e.side e.runs) (cond (e.kind == 14) (Jg r s e.side e.yes) (K2 r s e.runs e.overs))))))))))))
theorem WT {e : Ev} (h : (evS e == 0) = true) : (iLt e.kind 1 || iLt 16 e.kind) = false := by
 unfold evS at h
 cases hk : (iLt e.kind 1 || iLt 16 e.kind) with
 | false => rfl
 | true => rw [hk] at h; cases h
theorem eA {e : Ev} (h : (evS e == 0) = true) (hk : e.kind = 14) : e.side = 1 ∨ e.side = 2 := by
 have h0 := WT h
 unfold evS at h
 rw [h0] at h
 cases h1 : YU e with
 | true => rw [h1] at h; cases h
 | false =>
  cases h2 : UF e with
  | true => rw [h1, h2] at h; cases h
  | false =>
   unfold UF at h2
   rw [Bool.or_eq_false_iff] at h2
   have h3 := h2.1
   rw [hk, show uS 14 = true from rfl, Bool.and_true] at h3
   simp only [btw, iLe, Bool.not_eq_false', Bool.and_eq_true, decide_eq_true_eq] at h3
   omega
set_option maxHeartbeats 4000000 in
theorem TH {N : Nat} {r1 r2 r3 r4 r5 r6 r7 r9 r10 r11 r12 : Int} {r8 : Bool} {r0 : ByteArray} {r13 : Rows} {s0 s1 s2 s3 s4 s5 s6 s7 s8 s9 s10 s11 s12 s13 s15 s21 s22 s23 s25 s26 s27 : Int} {s18 s20 : Bool} {s14 s16 s17 s19 s24 : Rows} {e0 e1 e2 e3 e5 e6 e7 e8 e9 e10 e11 e13 e14 e15 e16 e18 : Int} {e4 e12 e17 : Bool} (h : Fit s14 s16 s17 s19 s24) (hw : s17.length + s16.length ≤ 1000000) (hN : 2097152 < N) (hs : r0.size ≤ 1048576) (h13 : r13.length ≤ 1048576) (he : (evS (⟨e0, e1, e2, e3, e4, e5, e6, ⟨e7, e8, e9, e10, e11, e12, e13, e14, e15, e16, e17, e18⟩⟩ : Ev) == 0) = true) : DN N [.str r0, .int r1, .int r2, .int r3, .int r4, .int r5, .int r6, .int r7, .bool r8, .int r9, .int r10, .int r11, .int r12, .rows r13, .int s0, .int s1, .int s2, .int s3, .int s4, .int s5, .int s6, .int s7, .int s8, .int s9, .int s10, .int s11, .int s12, .int s13, .rows s14, .int s15, .rows s16, .rows s17, .bool s18, .rows s19, .bool s20, .int s21, .int s22, .int s23, .rows s24, .int s25, .int s26, .int s27, .int e0, .int e1, .int e2, .int e3, .bool e4, .int e5, .int e6, .int e7, .int e8, .int e9, .int e10, .int e11, .bool e12, .int e13, .int e14, .int e15, .int e16, .bool e17, .int e18] = some (A2 (Bv (⟨r0, r1, r2, r3, r4, r5, r6, r7, r8, r9, r10, r11, r12, r13⟩ : Rul) (⟨s0, s1, s2, s3, s4, s5, s6, s7, s8, s9, s10, s11, s12, s13, s14, s15, s16, s17, s18, s19, s20, s21, s22, s23, s24, s25, s26, s27⟩ : Inn) (⟨e0, e1, e2, e3, e4, e5, e6, ⟨e7, e8, e9, e10, e11, e12, e13, e14, e15, e16, e17, e18⟩⟩ : Ev))) := by
  show DX (std (AX N) N) (xOf _) = _
  generalize hres : (some (A2 (Bv (⟨r0, r1, r2, r3, r4, r5, r6, r7, r8, r9, r10, r11, r12, r13⟩ : Rul) (⟨s0, s1, s2, s3, s4, s5, s6, s7, s8, s9, s10, s11, s12, s13, s14, s15, s16, s17, s18, s19, s20, s21, s22, s23, s24, s25, s26, s27⟩ : Inn) (⟨e0, e1, e2, e3, e4, e5, e6, ⟨e7, e8, e9, e10, e11, e12, e13, e14, e15, e16, e17, e18⟩⟩ : Ev))) : Option (List PV)) = RR
  have hsd : e0 = 14 → e1 = 1 ∨ e1 = 2 := eA (e := (⟨e0, e1, e2, e3, e4, e5, e6, ⟨e7, e8, e9, e10, e11, e12, e13, e14, e15, e16, e17, e18⟩⟩ : Ev)) he
  rcases WB (WT he) with hk | hk | hk | hk | hk | hk | hk | hk | hk | hk | hk | hk | hk | hk | hk | hk <;> simp only at hk <;> subst hk <;> clear he
  all_goals (first
    | (have hsd := hsd rfl
       simp only [DX, E3, FK, EX, Dw, Ei, EE, EC, EY, DR, EB, Dg, Dh, Ds, Dm, std, xOf, PXb, PXc, PXn, PXm, Nat.reduceAdd, Int.reduceBEq, UZ h hsd]
       subst hres
       rfl)
    | (simp only [DX, E3, FK, EX, Dw, Ei, EE, EC, EY, DR, EB, Dg, Dh, Ds, Dm, std, xOf, PXb, PXc, PXn, PXm, Nat.reduceAdd, Int.reduceBEq, XO h hN, Xu h hN hs, WH h hw hN hs h13, T7 h hN, V4 h hN, Va h hN, VT h, WC h, Ru h, Un h hN hs, TX h, TO h, UN h]
       subst hres
       first
       | rfl
       | (cases e4 <;> rfl)))
end Go.Px
end
section
namespace Go.Px
set_option maxRecDepth 100000
theorem Lens.of {s t : Inn} (h1 : t.batters.length = s.batters.length) (h2 : t.bowled.length = s.bowled.length) (h3 : t.subs.length = s.subs.length) (h4 : t.bowlers = s.bowlers) (h5 : t.before = s.before) : Lens s t := ⟨h1, h2, h3, by rw [h4]; omega, by rw [h5]; omega⟩
theorem L_c {s : Inn} (b : Bool) (x y : Inn × Int) (hx : Lens s x.1) (hy : Lens s y.1) : Lens s (cond b x y).1 := by cases b <;> assumption
theorem bX (s : Inn) (p q : Int) : Lens s (Qu s p q).1 := by
 unfold Qu
 exact L_c _ _ _ (Lens.refl s) (L_c _ _ _ (Lens.refl s) (L_c _ _ _ (Lens.refl s) (Lens.of (by simp [JO]) rfl rfl rfl rfl)))
theorem be (r : Rul) (s : Inn) (p : Int) : Lens s (Qd r s p).1 := by
 unfold Qd
 exact P_c (P := fun x : Inn => Lens s x) _ _ _ (Lens.of rfl rfl rfl rfl rfl) (Lens.refl s)
theorem bF (r : Rul) (s : Inn) (d : Del) : Lens s (Le r s d).1 := by
 unfold Le
 refine L_c _ _ _ (Lens.refl s) ?_
 have l1 := YA s d
 have w1 := cM s d
 have w2 := cK s d
 simp only [Ys]
 have l2 := Wt r (Ak s d) (AE r d).counts
 cases (Ax r (Ak s d) (AE r d).counts).2
 ·exact ⟨l2.bt.trans l1.bt, l2.bd.trans l1.bd, l2.sb.trans l1.sb, by have := l2.bw; rw [w1] at this; exact this, by have := l2.bf; rw [w1, w2] at this; exact this⟩
 ·exact ⟨l2.bt.trans l1.bt, l2.bd.trans l1.bd, l2.sb.trans l1.sb, by have := l2.bw; rw [w1] at this; exact this, by have := l2.bf; rw [w1, w2] at this; exact this⟩
theorem YJ (s : Inn) (p : Int) : Lens s (Ha s p).1 := by
 unfold Ha
 exact L_c _ _ _ (Lens.of (by simp [JO]) rfl rfl rfl rfl) (Lens.refl s)
theorem aE (s : Inn) (p : Int) : Lens s (MI s p).1 := by
 unfold MI
 exact L_c _ _ _ (Lens.of (by simp [JO]) rfl rfl rfl rfl) (Lens.refl s)
theorem Zc (s : Inn) (p : Int) (b : Bool) : Lens s (JX s p b).1 := by
 unfold JX
 exact L_c _ _ _ (Lens.refl s) (L_c _ _ _ (Lens.refl s) (L_c _ _ _ (Lens.refl s) (L_c _ _ _ (Lens.refl s) (Lens.of (by simp [JO]) rfl rfl rfl rfl))))
theorem YL (s : Inn) (n : Int) : Lens s (JU s n).1 := by
 unfold JU
 exact L_c _ _ _ (Lens.refl s) (Lens.of rfl rfl rfl rfl rfl)
theorem ZM (s : Inn) (n : Int) : Lens s (LQ s n).1 := by
 unfold LQ
 exact L_c _ _ _ (Lens.refl s) (L_c _ _ _ (Lens.refl s) (L_c _ _ _ (Lens.refl s) (Lens.of rfl rfl rfl rfl rfl)))
theorem au (s : Inn) (n : Int) (b : Bool) : Lens s (OH s n b).1 := by
 unfold OH
 exact L_c _ _ _ (Lens.refl s) (L_c _ _ _ (Lens.refl s) (Lens.of rfl rfl (by simp [cq]) rfl rfl))
theorem Ya (r : Rul) (s : Inn) : Lens s (JH r s).1 := by
 unfold JH
 exact L_c _ _ _ (Lens.refl s) (Lens.of rfl rfl rfl rfl rfl)
theorem X4 (r : Rul) (s : Inn) (n : Int) : Lens s (JK r s n).1 := by
 unfold JK
 exact L_c _ _ _ (Lens.refl s) (L_c _ _ _ (Lens.refl s) (Lens.of rfl rfl rfl rfl rfl))
theorem Xy (s : Inn) (n m : Int) : Lens s (JC s n m).1 := by
 unfold JC
 exact L_c _ _ _ (Lens.refl s) (L_c _ _ _ (Lens.of rfl rfl rfl rfl rfl) (Lens.of rfl rfl rfl rfl rfl))
theorem ZF (r : Rul) (s : Inn) (n : Int) (b : Bool) : Lens s (Jg r s n b).1 := by
 unfold Jg
 exact L_c _ _ _ (Lens.refl s) (L_c _ _ _ (Lens.of rfl rfl rfl rfl rfl) (Lens.refl s))
theorem ZP (r : Rul) (s : Inn) (n m : Int) : Lens s (K2 r s n m).1 := by
 unfold K2
 exact L_c _ _ _ (Lens.refl s) (L_c _ _ _ (Lens.refl s) (L_c _ _ _ (Lens.refl s) (Lens.of rfl rfl rfl rfl rfl)))
theorem SM (r : Rul) (s : Inn) (e : Ev) : Lens s (Bv r s e).1 := by
  unfold Bv
  exact L_c _ _ _ (bX ..) (L_c _ _ _ (be ..) (L_c _ _ _ (bF ..) (L_c _ _ _ (L_c _ _ _ (YJ ..) (aE ..)) (L_c _ _ _ (Zc ..) (L_c _ _ _ (YL ..)
    (L_c _ _ _ (ZM ..) (L_c _ _ _ (au ..) (L_c _ _ _ (Ya ..) (L_c _ _ _ (X4 ..) (L_c _ _ _ (Xy ..) (L_c _ _ _ (ZF ..) (ZP ..))))))))))))
def GS (r : Rul) (s : Inn) : Bool := Pu r.name r.side r.innings r.overs r.balls r.quota r.wide r.noball r.newball r.followon r.reviews r.outside r.power s.batters s.bowlers s.before s.bowled s.subs s.side s.target s.overs s.runs s.wickets s.wides s.noballs s.byes s.legbyes s.pens s.complete s.inover s.striker s.other s.bowler s.ballage s.keeper s.outside s.rev1 s.rev2 s.ending
def et (r : Rul) (s : Inn) : Int := cm (GS r s) s.batters s.striker s.other s.target s.overs s.runs s.complete
theorem PC {N : Nat} {r1 r2 r3 r4 r5 r6 r7 r9 r10 r11 r12 : Int} {r8 : Bool} {r0 : ByteArray} {r13 : Rows} {s0 s1 s2 s3 s4 s5 s6 s7 s8 s9 s10 s11 s12 s13 s15 s21 s22 s23 s25 s26 s27 : Int} {s18 s20 : Bool} {s14 s16 s17 s19 s24 : Rows} (h : Fit s14 s16 s17 s19 s24) (hN : 2097152 < N) (hs : r0.size ≤ 1048576) : A3 N [.str r0, .int r1, .int r2, .int r3, .int r4, .int r5, .int r6, .int r7, .bool r8, .int r9, .int r10, .int r11, .int r12, .rows r13, .int s0, .int s1, .int s2, .int s3, .int s4, .int s5, .int s6, .int s7, .int s8, .int s9, .int s10, .int s11, .int s12, .int s13, .rows s14, .int s15, .rows s16, .rows s17, .bool s18, .rows s19, .bool s20, .int s21, .int s22, .int s23, .rows s24, .int s25, .int s26, .int s27] = some [.bool (GS (⟨r0, r1, r2, r3, r4, r5, r6, r7, r8, r9, r10, r11, r12, r13⟩ : Rul) (⟨s0, s1, s2, s3, s4, s5, s6, s7, s8, s9, s10, s11, s12, s13, s14, s15, s16, s17, s18, s19, s20, s21, s22, s23, s24, s25, s26, s27⟩ : Inn))] := by
 exact Ns N _ _ _ _ _ _ _ _ _ _ _ _ _ _ _ _ _ _ _ _ _ _ _ _ _ _ _ _ _ _ _ _ _ _ _ _ _ _ _ _ _ _ hN hs h.bt h.bw h.bf h.bd
theorem UU {N : Nat} {r1 r2 r3 r4 r5 r6 r7 r9 r10 r11 r12 : Int} {r8 : Bool} {r0 : ByteArray} {r13 : Rows} {s0 s1 s2 s3 s4 s5 s6 s7 s8 s9 s10 s11 s12 s13 s15 s21 s22 s23 s25 s26 s27 : Int} {s18 s20 : Bool} {s14 s16 s17 s19 s24 : Rows} (h : Fit s14 s16 s17 s19 s24) (hN : 2097152 < N) (hs : r0.size ≤ 1048576) : Cl N [.str r0, .int r1, .int r2, .int r3, .int r4, .int r5, .int r6, .int r7, .bool r8, .int r9, .int r10, .int r11, .int r12, .rows r13, .int s0, .int s1, .int s2, .int s3, .int s4, .int s5, .int s6, .int s7, .int s8, .int s9, .int s10, .int s11, .int s12, .int s13, .rows s14, .int s15, .rows s16, .rows s17, .bool s18, .rows s19, .bool s20, .int s21, .int s22, .int s23, .rows s24, .int s25, .int s26, .int s27] = some [.int (et (⟨r0, r1, r2, r3, r4, r5, r6, r7, r8, r9, r10, r11, r12, r13⟩ : Rul) (⟨s0, s1, s2, s3, s4, s5, s6, s7, s8, s9, s10, s11, s12, s13, s14, s15, s16, s17, s18, s19, s20, s21, s22, s23, s24, s25, s26, s27⟩ : Inn))] := by
 exact TK N _ _ _ _ _ _ _ _ _ _ _ _ _ _ _ _ _ _ _ _ _ _ _ _ _ _ _ _ _ _ _ _ _ _ _ _ _ _ _ _ _ _ hN hs h.bt h.bw h.bf h.bd
def Xw (t : Inn) (b : Bool) : Inn := ⟨t.side, t.target, t.overs, t.runs, t.wickets, t.wides, t.noballs, t.byes, t.legbyes, t.pens, t.complete, t.inover, t.striker, t.other, t.batters, t.bowler, t.bowlers, t.before, b, t.bowled, t.freehit, t.ballage, t.keeper, t.outside, t.subs, t.rev1, t.rev2, t.ending⟩
def Hs (r : Rul) (t : Inn) (b : Bool) : Inn := { Xw t b with ending := cond (t.ending == 0) (et r (Xw t b)) t.ending }
def Sy (s : Inn) (e : Ev) : Bool := e.kind == 1 || e.kind == 12 || e.kind == 16 || (!CS s.batters && !(e.kind == 2))
def Aj (r : Rul) (s : Inn) (e : Ev) : Inn × Int :=
  cond (!GS r s || !(evS e == 0)) (s, 1) (cond (!(s.ending == 0)) (s, 26) (cond (Sy s e) (s, 1)
    (cond (!((Bv r s e).2 == 0)) (s, (Bv r s e).2) (Hs r (Bv r s e).1 (e.kind == 4), 0))))
set_option maxHeartbeats 4000000 in
theorem LF {N : Nat} {r1 r2 r3 r4 r5 r6 r7 r9 r10 r11 r12 : Int} {r8 : Bool} {r0 : ByteArray} {r13 : Rows} {s0 s1 s2 s3 s4 s5 s6 s7 s8 s9 s10 s11 s12 s13 s15 s21 s22 s23 s25 s26 s27 : Int} {s18 s20 : Bool} {s14 s16 s17 s19 s24 : Rows} {e0 e1 e2 e3 e5 e6 e7 e8 e9 e10 e11 e13 e14 e15 e16 e18 : Int} {e4 e12 e17 : Bool} (h : Fit s14 s16 s17 s19 s24) (hw : s17.length + s16.length ≤ 1000000) (hN : 2097152 < N) (hs : r0.size ≤ 1048576) (h13 : r13.length ≤ 1048576) : FZ N [.str r0, .int r1, .int r2, .int r3, .int r4, .int r5, .int r6, .int r7, .bool r8, .int r9, .int r10, .int r11, .int r12, .rows r13, .int s0, .int s1, .int s2, .int s3, .int s4, .int s5, .int s6, .int s7, .int s8, .int s9, .int s10, .int s11, .int s12, .int s13, .rows s14, .int s15, .rows s16, .rows s17, .bool s18, .rows s19, .bool s20, .int s21, .int s22, .int s23, .rows s24, .int s25, .int s26, .int s27, .int e0, .int e1, .int e2, .int e3, .bool e4, .int e5, .int e6, .int e7, .int e8, .int e9, .int e10, .int e11, .bool e12, .int e13, .int e14, .int e15, .int e16, .bool e17, .int e18] = some (A2 (Aj (⟨r0, r1, r2, r3, r4, r5, r6, r7, r8, r9, r10, r11, r12, r13⟩ : Rul) (⟨s0, s1, s2, s3, s4, s5, s6, s7, s8, s9, s10, s11, s12, s13, s14, s15, s16, s17, s18, s19, s20, s21, s22, s23, s24, s25, s26, s27⟩ : Inn) (⟨e0, e1, e2, e3, e4, e5, e6, ⟨e7, e8, e9, e10, e11, e12, e13, e14, e15, e16, e17, e18⟩⟩ : Ev))) := by
 show Ho (std (Bo N) N) (xOf _) = _
 generalize hres : (some (A2 (Aj (⟨r0, r1, r2, r3, r4, r5, r6, r7, r8, r9, r10, r11, r12, r13⟩ : Rul) (⟨s0, s1, s2, s3, s4, s5, s6, s7, s8, s9, s10, s11, s12, s13, s14, s15, s16, s17, s18, s19, s20, s21, s22, s23, s24, s25, s26, s27⟩ : Inn) (⟨e0, e1, e2, e3, e4, e5, e6, ⟨e7, e8, e9, e10, e11, e12, e13, e14, e15, e16, e17, e18⟩⟩ : Ev))) : Option (List PV)) = RR
 have l1 := SM (⟨r0, r1, r2, r3, r4, r5, r6, r7, r8, r9, r10, r11, r12, r13⟩ : Rul) (⟨s0, s1, s2, s3, s4, s5, s6, s7, s8, s9, s10, s11, s12, s13, s14, s15, s16, s17, s18, s19, s20, s21, s22, s23, s24, s25, s26, s27⟩ : Inn) (⟨e0, e1, e2, e3, e4, e5, e6, ⟨e7, e8, e9, e10, e11, e12, e13, e14, e15, e16, e17, e18⟩⟩ : Ev)
 have f1 := QM l1 h (by simp only; omega)
 simp only [Ho, Kz, E2, LA, MZ, LE, ES, std, xOf, PXb, PC h hN hs, RG hN, Bj h, Vl h.bt hN]
 subst hres; simp only [Aj, Sy]
 cases GS (⟨r0, r1, r2, r3, r4, r5, r6, r7, r8, r9, r10, r11, r12, r13⟩ : Rul) (⟨s0, s1, s2, s3, s4, s5, s6, s7, s8, s9, s10, s11, s12, s13, s14, s15, s16, s17, s18, s19, s20, s21, s22, s23, s24, s25, s26, s27⟩ : Inn)
 ·rfl
 cases he : evS (⟨e0, e1, e2, e3, e4, e5, e6, ⟨e7, e8, e9, e10, e11, e12, e13, e14, e15, e16, e17, e18⟩⟩ : Ev) == 0
 ·simp only [PXb, PXc, PXn, PXm, Nat.reduceAdd, Int.reduceBEq, he]
 simp only [PXb, PXc, PXn, PXm, Nat.reduceAdd, Int.reduceBEq, he]
 cases s27 == 0 <;> try rfl
 cases (e0 == 1 || e0 == 12 || e0 == 16) <;> cases CS s14 <;> cases e0 == 2 <;> try rfl
 all_goals (simp only [PXb, PXc, PXn, PXm, Nat.reduceAdd, Int.reduceBEq, ES, E2, TH h hw hN hs h13 he, UU f1 hN hs])
 all_goals (unfold Hs Xw; cases (Bv (⟨r0, r1, r2, r3, r4, r5, r6, r7, r8, r9, r10, r11, r12, r13⟩ : Rul) (⟨s0, s1, s2, s3, s4, s5, s6, s7, s8, s9, s10, s11, s12, s13, s14, s15, s16, s17, s18, s19, s20, s21, s22, s23, s24, s25, s26, s27⟩ : Inn) (⟨e0, e1, e2, e3, e4, e5, e6, ⟨e7, e8, e9, e10, e11, e12, e13, e14, e15, e16, e17, e18⟩⟩ : Ev)).2 == 0 <;> cases (Bv (⟨r0, r1, r2, r3, r4, r5, r6, r7, r8, r9, r10, r11, r12, r13⟩ : Rul) (⟨s0, s1, s2, s3, s4, s5, s6, s7, s8, s9, s10, s11, s12, s13, s14, s15, s16, s17, s18, s19, s20, s21, s22, s23, s24, s25, s26, s27⟩ : Inn) (⟨e0, e1, e2, e3, e4, e5, e6, ⟨e7, e8, e9, e10, e11, e12, e13, e14, e15, e16, e17, e18⟩⟩ : Ev)).1.ending == 0 <;> rfl)
end Go.Px
end
section
namespace Go.Px
set_option maxRecDepth 100000
def LX (r : Rul) : Rul := { r with name := dL r.name 20, power := cut r.power 10 }
theorem cP (L : Rows) (c : Nat) : (cut L c).length ≤ c := by
 unfold cut
 rw [List.length_drop, List.length_take]
 cases h : iLt (c : Int) (L.length : Int) with
 | true => simp only [cond_true]; omega
 | false => simp only [iLt, decide_eq_false_iff_not] at h; simp only [cond_false]; omega
theorem Yt (r : Rul) (h : r.name.size ≤ 1048576) : (LX r).name.size ≤ 1048576 := Nat.le_trans (dT _ _) h
theorem W8 (r : Rul) : (LX r).power.length ≤ 1048576 := Nat.le_trans (cP _ 10) (by omega)
theorem ZY {s t : Inn} (r : Rul) (b : Bool) (h : Lens s t) : Lens s (Hs r t b) := ⟨h.bt, h.bd, h.sb, h.bw, h.bf⟩
theorem Sn (r : Rul) (s : Inn) (e : Ev) : Lens s (Aj r s e).1 := by
 unfold Aj
 exact L_c _ _ _ (Lens.refl s) (L_c _ _ _ (Lens.refl s) (L_c _ _ _ (Lens.refl s) (L_c _ _ _ (Lens.refl s) (ZY r _ (SM r s e)))))
end Go.Px
end
section
namespace Go.Px
set_option maxRecDepth 100000
theorem Zr {r : Rul} {s : Inn} {e : Ev} (h : ((Aj r s e).2 == 0) = true) :
    GS r s = true ∧ (evS e == 0) = true ∧ (s.ending == 0) = true ∧ Sy s e = false ∧ ((Bv r s e).2 == 0) = true ∧ (Aj r s e).1 = Hs r (Bv r s e).1 (e.kind == 4) := by
  unfold Aj at h ⊢
  cases hv : GS r s with
  | false => rw [hv] at h; cases h
  | true =>
    cases he : evS e == 0 with
    | false => rw [hv, he] at h; cases h
    | true =>
      cases hn : s.ending == 0 with
      | false => rw [hv, he, hn] at h; cases h
      | true =>
        cases hw : Sy s e with
        | true => rw [hv, he, hn, hw] at h; cases h
        | false =>
          cases hp : (Bv r s e).2 == 0 with
          | false => rw [hv, he, hn, hw, hp] at h; exact absurd (hp ▸ h) (by decide)
          | true => exact ⟨rfl, rfl, rfl, rfl, rfl, rfl⟩
end Go.Px
end
section
namespace Go.Px
set_option maxRecDepth 100000
theorem QA {x a b : Int} : btw x a b = true ↔ a ≤ x ∧ x ≤ b := by simp [btw, iLe]
structure RulOk (r : Rul) : Prop where
 side : 2 ≤ r.side ∧ r.side ≤ 11
 innings : 1 ≤ r.innings ∧ r.innings ≤ 2
 overs : 0 ≤ r.overs ∧ r.overs ≤ 90
 balls : 4 ≤ r.balls ∧ r.balls ≤ 8
 quota : 0 ≤ r.quota ∧ r.quota ≤ 90
 wide : 1 ≤ r.wide ∧ r.wide ≤ 5
 noball : 1 ≤ r.noball ∧ r.noball ≤ 5
 newball : 0 ≤ r.newball ∧ r.newball ≤ 200
 followon : 0 ≤ r.followon ∧ r.followon ≤ 1000
 reviews : 0 ≤ r.reviews ∧ r.reviews ≤ 9
 outside : 0 ≤ r.outside ∧ r.outside ≤ 11
theorem K6 {r : Rul} (h : Bh r = 0) : RulOk r := by
 unfold Bh Ja at h
 cases hn : Sj r.name with
 | false => rw [hn] at h; cases h
 | true =>
  cases hr : LZ r.side r.innings r.overs r.balls r.quota r.wide r.noball r.newball r.followon r.reviews r.outside with
  | false => rw [hn, hr] at h; cases h
  | true =>
   unfold LZ at hr
   simp only [Bool.and_eq_true, QA] at hr
   obtain ⟨⟨⟨⟨⟨⟨⟨⟨⟨⟨h1, h2⟩, h3⟩, h4⟩, h5⟩, h6⟩, h7⟩, h8⟩, h9⟩, h10⟩, h11⟩ := hr
   exact ⟨h1, h2, h3, h4, h5, h6, h7, h8, h9, h10, h11⟩
def Bl (x : Int) : Prop := 0 ≤ x ∧ x ≤ 1000000000
structure InnOk (r : Rul) (s : Inn) : Prop where
 code : Bh r = 0
 side : 1 ≤ s.side ∧ s.side ≤ 2
 lb : (s.batters.length : Int) = r.side
 ld : (s.bowled.length : Int) = r.side
 lz : (s.subs.length : Int) = r.side
 ending : s.ending ≤ 5
 st : 0 ≤ s.striker ∧ s.striker ≤ r.side
 ot : 0 ≤ s.other ∧ s.other ≤ r.side
 bat : VL s.batters s.striker s.other s.wickets = true
 bow : 0 ≤ s.bowler ∧ s.bowler ≤ r.side
 kee : 0 ≤ s.keeper ∧ s.keeper ≤ r.side
 dw : IV s.bowlers r.side = true
 df : IV s.before r.side = true
 ov : V5 r.overs s.overs = true
 io : 0 ≤ s.inover ∧ s.inover ≤ r.balls - 1
 target : Bl s.target
 runs : Bl s.runs
 wides : Bl s.wides
 noballs : Bl s.noballs
 byes : Bl s.byes
 legbyes : Bl s.legbyes
 pens : Bl s.pens
 complete : Bl s.complete
 ballage : Bl s.ballage
 outside : Bl s.outside
 rev1 : Bl s.rev1
 rev2 : Bl s.rev2
 bowled : IK Hh s.bowled = false
theorem eD {x : Int} : Hh x = false ↔ Bl x := by
 unfold Hh Bl
 rw [Bool.not_eq_false', QA]
theorem dX (a b c d e f g h i j k l : Int) : IK Hh (ZC a b c d e f g h i j k l) = false ↔ Bl a ∧ Bl b ∧ Bl c ∧ Bl d ∧ Bl e ∧ Bl f ∧ Bl g ∧ Bl h ∧ Bl i ∧ Bl j ∧ Bl k ∧ Bl l := by
 rw [LG]
 simp only [ZC, List.any_cons, List.any_nil, Bool.or_false, Wm, dx, Bool.or_eq_false_iff, eD]
theorem VS {r : Rul} (h : RulOk r) : IntKind.i64.wrap (r.balls - 1) = r.balls - 1 := by
 have := h.balls
 exact DP (by omega) (by omega)
theorem Zw {x : Int} : (!iLt 5 x) = true ↔ x ≤ 5 := by
 rw [Bool.not_eq_true']
 simp only [iLt, decide_eq_false_iff_not]
 omega
theorem Wi {r : Rul} {s : Inn} : GS r s = true ↔ InnOk r s := by
 unfold GS Pu
 simp only [Bool.and_eq_true, Bool.not_eq_true', dX, QA]
 constructor
 ·intro ⟨h1, h2, h3, h4, h5, h6, h7, h8, h9, h10, h11, h12, h13, h14, h15, ⟨n1, n2, n3, n4, n5, n6, n7, n8, n9, n10, n11, n12⟩, h17⟩
  have hc : Bh r = 0 := beq_iff_eq.1 h1
  exact ⟨hc, h2, beq_iff_eq.1 h3, beq_iff_eq.1 h4, beq_iff_eq.1 h5, Zw.1 (by rw [h6]; rfl), h7, h8, h9, h10, h11, h12, h13, h14, by rw [VS (K6 hc)] at h15; exact h15, n1, n2, n3, n4, n5, n6, n7, n8, n9, n10, n11, n12, h17⟩
 ·intro h
  have h6 := Zw.2 h.ending
  rw [Bool.not_eq_true'] at h6
  exact ⟨beq_iff_eq.2 h.code, h.side, beq_iff_eq.2 h.lb, beq_iff_eq.2 h.ld, beq_iff_eq.2 h.lz, h6, h.st, h.ot, h.bat, h.bow, h.kee, h.dw, h.df, h.ov, by rw [VS (K6 h.code)]; exact h.io,
   ⟨h.target, h.runs, h.wides, h.noballs, h.byes, h.legbyes, h.pens, h.complete, h.ballage, h.outside, h.rev1, h.rev2⟩, h.bowled⟩
theorem Ck (n : Int) : IntKind.i64.wrap n = (n + 9223372036854775808) % 18446744073709551616 - 9223372036854775808 := by
 unfold IntKind.wrap
 simp only [IntKind.signed, IntKind.bits]
 simp
 split <;> omega
theorem Ft (n : Int) : IntKind.i64.wrap (IntKind.i64.wrap n) = IntKind.i64.wrap n := by
 simp only [Ck]; omega
theorem JW (a b : Int) : IntKind.i64.wrap (IntKind.i64.wrap (a + b) - a) = IntKind.i64.wrap b := by
 simp only [Ck]; omega
theorem Q9 (a : Int) : IntKind.i64.wrap (a - a) = 0 := by rw [Int.sub_self]; rfl
theorem Y5 (s : Inn) (d : Del) : (Ak s d).runs = s.runs ∧ (Ak s d).wides = s.wides ∧ (Ak s d).noballs = s.noballs ∧ (Ak s d).byes = s.byes ∧ (Ak s d).legbyes = s.legbyes ∧ (Ak s d).pens = s.pens ∧ (Ak s d).complete = s.complete ∧ (Ak s d).inover = s.inover ∧ (Ak s d).bowler = s.bowler ∧ (Ak s d).bowled = s.bowled := by
  unfold Ak
  cases (!(d.runs.tmod 2 == 0) != d.crossed) <;> exact P_c (P := fun x : Inn => x.runs = s.runs ∧ x.wides = s.wides ∧ x.noballs = s.noballs ∧ x.byes = s.byes ∧ x.legbyes = s.legbyes ∧ x.pens = s.pens ∧ x.complete = s.complete ∧ x.inover = s.inover ∧ x.bowler = s.bowler ∧ x.bowled = s.bowled) _ _ _ ⟨rfl, rfl, rfl, rfl, rfl, rfl, rfl, rfl, rfl, rfl⟩
    (P_c (P := fun x : Inn => x.runs = s.runs ∧ x.wides = s.wides ∧ x.noballs = s.noballs ∧ x.byes = s.byes ∧ x.legbyes = s.legbyes ∧ x.pens = s.pens ∧ x.complete = s.complete ∧ x.inover = s.inover ∧ x.bowler = s.bowler ∧ x.bowled = s.bowled) _ _ _ ⟨rfl, rfl, rfl, rfl, rfl, rfl, rfl, rfl, rfl, rfl⟩ ⟨rfl, rfl, rfl, rfl, rfl, rfl, rfl, rfl, rfl, rfl⟩)
def V7 (r : Rul) (s : Inn) (d : Del) : Inn :=
 let o := Ax r (Ak s d) (AE r d).counts
 let t : Inn := cond o.2 (LR o.1) o.1
 { t with runs := IntKind.i64.wrap (s.runs + HI (AE r d)), wides := IntKind.i64.wrap (s.wides + (AE r d).wides), noballs := IntKind.i64.wrap (s.noballs + (AE r d).noballs), byes := IntKind.i64.wrap (s.byes + (AE r d).byes), legbyes := IntKind.i64.wrap (s.legbyes + (AE r d).legbyes), freehit := cond (d.type == 1) false (cond (d.type == 3 && r.freehit) true o.1.freehit) }
theorem eO {r : Rul} {s : Inn} {d : Del} (h : ((Le r s d).2 == 0) = true) : (Gj r s d == 0) = true ∧ (Le r s d).1 = V7 r s d := by
 unfold Le at h ⊢
 cases hr : Gj r s d == 0 with
 | false => rw [hr] at h; exact absurd (hr ▸ h) (by decide)
 | true =>
  refine ⟨rfl, ?_⟩
  obtain ⟨k1, k2, k3, k4, k5, _⟩ := Y5 s d
  simp only [Bool.not_true, cond_false, Ys, k1, k2, k3, k4, k5, V7]
  generalize Ax r (Ak s d) (AE r d).counts = o
  obtain ⟨o1, o2⟩ := o
  cases o2 <;> rfl
theorem bG {r : Rul} {s : Inn} {d : Del} (h : (Gj r s d == 0) = true) : FL s.batters s.striker s.other = false ∧ (s.bowler == 0) = false ∧ (N0 r s == 0) = true ∧ (HT d == 0) = true ∧ (NU d s.freehit == 0) = true ∧ (Nj s d == 0) = true := by
 unfold Gj at h
 cases h1 : FL s.batters s.striker s.other with
 | true => rw [h1] at h; cases h
 | false =>
  cases h2 : s.bowler == 0 with
  | true => rw [h1, h2] at h; cases h
  | false =>
   rw [h1, h2] at h
   change (U7 _ _ _ _ == 0) = true at h
   unfold U7 at h
   cases h3 : N0 r s == 0 with
   | false => rw [h3] at h; exact absurd (h3 ▸ h) (by decide)
   | true =>
    cases h4 : HT d == 0 with
    | false => rw [h3, h4] at h; exact absurd (h4 ▸ h) (by decide)
    | true =>
     cases h5 : NU d s.freehit == 0 with
     | false => rw [h3, h4, h5] at h; exact absurd (h5 ▸ h) (by decide)
     | true =>
      cases h6 : Nj s d == 0 with
      | false => rw [h3, h4, h5, h6] at h; exact absurd (h6 ▸ h) (by decide)
      | true => exact ⟨rfl, rfl, rfl, rfl, rfl, rfl⟩
theorem ZQ {d : Del} {f : Bool} (h : (NU d f == 0) = true) (hd : (d.how == 0) = false) : (d.victim == 1) = true ∨ (d.victim == 2) = true := by
 unfold NU at h
 rw [hd] at h
 cases h1 : d.victim == 1 with
 | true => exact .inl rfl
 | false =>
  cases h2 : d.victim == 2 with
  | true => exact .inr rfl
  | false =>
   rw [h1, h2] at h
   exfalso
   revert h
   cases (!onS d.how d.type || f && !Xh d.how) <;> cases (!LB d.how && (!(d.source == 0) || !(d.runs == 0))) <;> intro h <;> cases h
theorem cn {s : Inn} {e : Ev} (h : Sy s e = false) (hk : (e.kind == 2) = false) : CS s.batters = true := by
 unfold Sy at h
 rw [hk] at h
 cases hb : CS s.batters with
 | true => rfl
 | false => rw [hb] at h; simp at h
theorem du {s : Inn} {d : Del} (h1 : (s.striker == 0) = false) (h2 : (s.other == 0) = false) (hv : (d.how == 0) = false → (d.victim == 1) = true ∨ (d.victim == 2) = true) :
    (Ak s d).wickets = cond (d.how == 0) s.wickets (inc s.wickets) := by
  unfold Ak
  rw [h1, h2]
  cases hd : d.how == 0 with
  | true => cases (!(d.runs.tmod 2 == 0) != d.crossed) <;> rfl
  | false =>
    rcases hv hd with h | h <;> rw [h] <;> cases (!(d.runs.tmod 2 == 0) != d.crossed) <;> cases d.victim == 1 <;> rfl
theorem dr (r : Rul) (s : Inn) (b : Bool) : (Ax r s b).1.wickets = s.wickets ∧ (Ax r s b).1.pens = s.pens := by
 unfold Ax
 exact P_c (P := fun x : Inn × Bool => x.1.wickets = s.wickets ∧ x.1.pens = s.pens) _ _ _ ⟨rfl, rfl⟩ (P_c (P := fun x : Inn × Bool => x.1.wickets = s.wickets ∧ x.1.pens = s.pens) _ _ _ ⟨rfl, rfl⟩ ⟨rfl, rfl⟩)
theorem Z9 {r : Rul} {s : Inn} {b : Bool} (hr : RulOk r) (hc : Bh r = 0) (hb : inR s.bowler s.bowled.length = true) (hi : 0 ≤ s.inover ∧ s.inover ≤ r.balls - 1) (hn : Bl s.complete) :
    IntKind.i64.wrap (EZ r.balls (Ax r s b).1.complete (Ax r s b).1.inover - EZ r.balls s.complete s.inover) = cond b 1 0 := by
  have hk : ∃ k : Nat, r.balls = k := ⟨r.balls.toNat, by have := hr.balls; omega⟩
  have hz := hr.balls
  unfold Bl at hn
  unfold Ax EZ
  rw [hb, hc]
  cases b with
  | false =>
    have h1 : iLt s.inover r.balls = true := by simp only [iLt, decide_eq_true_eq]; omega
    simp only [cond_false, h1, beq_self_eq_true, Bool.not_true, Bool.or_false, cond_true]
    exact Q9 _
  | true =>
    have h2 : inc s.inover = s.inover + 1 := DP (by omega) (by omega)
    simp only [cond_true, h2, beq_self_eq_true, Bool.not_true, Bool.or_false, cond_false]
    have h3 : inc s.complete = s.complete + 1 := DP (by omega) (by omega)
    have hb5 : r.balls = 4 ∨ r.balls = 5 ∨ r.balls = 6 ∨ r.balls = 7 ∨ r.balls = 8 := by omega
    cases h1 : iLt (s.inover + 1) r.balls with
    | true =>
      simp only [cond_true]
      rcases hb5 with e | e | e | e | e <;> rw [e] at hi ⊢ <;> simp only [Ck] <;> omega
    | false =>
      simp only [iLt, decide_eq_false_iff_not] at h1
      simp only [cond_false, h3]
      rcases hb5 with e | e | e | e | e <;> rw [e] at hi h1 ⊢ <;> simp only [Ck] <;> omega
end Go.Px
end
section
namespace Go.Px
set_option maxRecDepth 100000
theorem cY {L : Rows} {s n : Int} (h : FL L s n = false) (hb : CS L = true) : (s == 0) = false ∧ (n == 0) = false := by
 unfold FL at h
 rw [hb, Bool.true_and, Bool.or_eq_false_iff] at h
 exact h
theorem bU {r : Rul} {s : Inn} (h : InnOk r s) (hb : (s.bowler == 0) = false) : inR s.bowler s.bowled.length = true := by
 have h1 := h.bow
 have h2 := h.ld
 rw [beq_eq_false_iff_ne] at hb
 simp only [inR, iLe, Bool.and_eq_true, decide_eq_true_eq]
 omega
theorem bP {r : Rul} {s : Inn} {e : Ev} (hk : (e.kind == 4) = true) (h : ((Aj r s e).2 == 0) = true) :
    IntKind.i64.wrap ((Aj r s e).1.runs - s.runs) = HI (AE r e.ball) ∧ IntKind.i64.wrap ((Aj r s e).1.wides - s.wides) = (AE r e.ball).wides ∧ IntKind.i64.wrap ((Aj r s e).1.noballs - s.noballs) = (AE r e.ball).noballs ∧
    IntKind.i64.wrap ((Aj r s e).1.byes - s.byes) = (AE r e.ball).byes ∧ IntKind.i64.wrap ((Aj r s e).1.legbyes - s.legbyes) = (AE r e.ball).legbyes ∧ (Aj r s e).1.pens = s.pens ∧
    IntKind.i64.wrap (EZ r.balls (Aj r s e).1.complete (Aj r s e).1.inover - EZ r.balls s.complete s.inover) = cond (AE r e.ball).counts 1 0 ∧
    IntKind.i64.wrap ((Aj r s e).1.wickets - s.wickets) = cond (e.ball.how == 0) 0 1 ∧ (Aj r s e).1.fresh = true ∧ IntKind.i64.wrap (Aj r s e).1.runs = (Aj r s e).1.runs := by
  obtain ⟨hv, he, hn, hw, hp, hs⟩ := Zr h
  have k4 := beq_iff_eq.1 hk
  have hpb : Bv r s e = Le r s e.ball := by unfold Bv; rw [k4]; rfl
  obtain ⟨d, hd0⟩ : ∃ d, d = e.ball := ⟨_, rfl⟩
  rw [← hd0] at hpb ⊢
  rw [hpb] at hp hs
  obtain ⟨hr, hb⟩ := eO hp
  obtain ⟨q1, q2, q3, q4, q5, q6⟩ := bG hr
  have ok := Wi.1 hv
  have rk := K6 ok.code
  have hbeg : CS s.batters = true := cn hw (by rw [k4]; rfl)
  obtain ⟨z1, z2⟩ := cY q1 hbeg
  have hin := bU ok q2
  have hout := du (d := d) z1 z2 (fun hd => ZQ q5 hd)
  obtain ⟨k1, k2, k3, k4, k5, k6, k7, k8, k9, k10⟩ := Y5 s d
  have hbl := Z9 (b := (AE r d).counts) (s := Ak s d) rk ok.code (by rw [k9, k10]; exact hin) (by rw [k8]; exact ok.io) (by rw [k7]; exact ok.complete)
  rw [k7, k8] at hbl
  obtain ⟨w1, w2⟩ := dr r (Ak s d) (AE r d).counts
  rw [hs, hb]
  have hc : AE r d = Qp r d := by unfold AE; rw [q4]; rfl
  have ht : IntKind.i64.wrap (HI (AE r d)) = HI (AE r d) := Ft _
  have c1 : IntKind.i64.wrap (AE r d).wides = (AE r d).wides := by rw [hc]; unfold Qp; simp only; cases d.type == 2 <;> first | rfl | exact Ft _
  have c2 : IntKind.i64.wrap (AE r d).noballs = (AE r d).noballs := by
    have := rk.noball
    rw [hc]; unfold Qp; simp only; cases d.type == 3 <;> first | rfl | exact DP (n := r.noball) (by omega) (by omega)
  have c3 : IntKind.i64.wrap (AE r d).byes = (AE r d).byes := by rw [hc]; unfold Qp; simp only; cases (!(d.type == 2) && d.source == 2) <;> first | rfl | exact Ft _
  have c4 : IntKind.i64.wrap (AE r d).legbyes = (AE r d).legbyes := by rw [hc]; unfold Qp; simp only; cases (!(d.type == 2) && d.source == 3) <;> first | rfl | exact Ft _
  refine ⟨(JW _ _).trans ht, (JW _ _).trans c1, (JW _ _).trans c2, (JW _ _).trans c3, (JW _ _).trans c4, ?_, ?_, ?_, hk, Ft _⟩
  · have : (Hs r (V7 r s d) (e.kind == 4)).pens = (Ax r (Ak s d) (AE r d).counts).1.pens := by
      show (cond (Ax r (Ak s d) (AE r d).counts).2 (LR (Ax r (Ak s d) (AE r d).counts).1) (Ax r (Ak s d) (AE r d).counts).1).pens = _
      cases (Ax r (Ak s d) (AE r d).counts).2 <;> rfl
    rw [this, w2, k6]
  · have e1 : (Hs r (V7 r s d) (e.kind == 4)).complete = (Ax r (Ak s d) (AE r d).counts).1.complete := by
      show (cond (Ax r (Ak s d) (AE r d).counts).2 (LR (Ax r (Ak s d) (AE r d).counts).1) (Ax r (Ak s d) (AE r d).counts).1).complete = _
      cases (Ax r (Ak s d) (AE r d).counts).2 <;> rfl
    have e2 : (Hs r (V7 r s d) (e.kind == 4)).inover = (Ax r (Ak s d) (AE r d).counts).1.inover := by
      show (cond (Ax r (Ak s d) (AE r d).counts).2 (LR (Ax r (Ak s d) (AE r d).counts).1) (Ax r (Ak s d) (AE r d).counts).1).inover = _
      cases (Ax r (Ak s d) (AE r d).counts).2 <;> rfl
    rw [e1, e2, hbl]
  · have : (Hs r (V7 r s d) (e.kind == 4)).wickets = (Ax r (Ak s d) (AE r d).counts).1.wickets := by
      show (cond (Ax r (Ak s d) (AE r d).counts).2 (LR (Ax r (Ak s d) (AE r d).counts).1) (Ax r (Ak s d) (AE r d).counts).1).wickets = _
      cases (Ax r (Ak s d) (AE r d).counts).2 <;> rfl
    rw [this, w1, hout]
    unfold inc
    cases d.how == 0 with
    | true => exact Q9 _
    | false => exact (JW s.wickets 1).trans rfl
end Go.Px
end
section
namespace Go.Px
set_option maxRecDepth 100000
def dh : Inn := ⟨0, 0, 0, 0, 0, 0, 0, 0, 0, 0, 0, 0, 0, 0, [], 0, [], [], false, [], false, 0, 0, 0, [], 0, 0, 0⟩
def fY (n : Nat) (overs side t p : Int) : Inn := ⟨side, t, overs, p, 0, 0, 0, 0, 0, p, 0, 0, 0, 0, List.replicate n [.int 0], 0, [], [], false, List.replicate n [.int 0], false, 0, 0, 0, List.replicate n [.bool false], 0, 0, 0⟩
def BK (r : Rul) (side t p : Int) : Inn × Int :=
 cond (!(Bh r == 0)) (dh, Bh r) (cond (!btw side 1 2 || !btw t 0 1000000 || !btw p 0 1000000) (dh, 2) (fY r.side.toNat r.overs side t p, 0))
theorem Ox {N : Nat} {r1 r2 r3 r4 r5 r6 r7 r9 r10 r11 r12 : Int} {r8 : Bool} {r0 : ByteArray} {r13 : Rows} {a : Int} {b : Int} {c : Int} (hN : 2097152 < N) (hs : r0.size ≤ 1048576) : Em N [.str r0, .int r1, .int r2, .int r3, .int r4, .int r5, .int r6, .int r7, .bool r8, .int r9, .int r10, .int r11, .int r12, .rows r13, .int a, .int b, .int c] = some (A2 (BK (⟨r0, r1, r2, r3, r4, r5, r6, r7, r8, r9, r10, r11, r12, r13⟩ : Rul) a b c)) := by
 show Gz (std (FC N) N) (xOf _) = _
 generalize hres : (some (A2 (BK (⟨r0, r1, r2, r3, r4, r5, r6, r7, r8, r9, r10, r11, r12, r13⟩ : Rul) a b c)) : Option (List PV)) = RR
 simp only [Gz, Lx, Jm, std, xOf, PXb, DI hN hs, C3]
 subst hres; simp only [BK]
 cases hc : Bh (⟨r0, r1, r2, r3, r4, r5, r6, r7, r8, r9, r10, r11, r12, r13⟩ : Rul) == 0 with
 | false => rfl
 | true =>
  have rk := (K6 (beq_iff_eq.1 hc)).side
  obtain ⟨k, hk⟩ : ∃ k : Nat, r1 = k := ⟨r1.toNat, by simp only at rk; omega⟩
  subst hk
  simp only at rk
  have h1 : iSm (k : Int) 1 = true := Is (by omega) (by omega)
  have h8 : iSm (k : Int) 8 = true := Is (by omega) (by omega)
  simp only [PXb, PXc, PXn, PXm, Nat.reduceAdd, Int.reduceBEq, h1, h8]
  cases btw a 1 2 <;> cases btw b 0 1000000 <;> cases btw c 0 1000000 <;> rfl
theorem ND (r : Rul) (side t p : Int) : (BK r side t p).1.Fit ∧ (BK r side t p).1.before = [] ∧ (BK r side t p).1.bowlers = [] := by
 unfold BK
 cases hc : Bh r == 0 with
 | false => exact ⟨⟨by show 0 ≤ 1048576; omega, by show 0 ≤ 1048576; omega, by show 0 ≤ 1048576; omega, by show 0 ≤ 1048576; omega, by show 0 ≤ 1048576; omega⟩, rfl, rfl⟩
 | true =>
  have hs := (K6 (beq_iff_eq.1 hc)).side
  have hl : ∀ x : List PV, (List.replicate r.side.toNat x).length ≤ 1048576 := fun x => by rw [List.length_replicate]; omega
  cases (!btw side 1 2 || !btw t 0 1000000 || !btw p 0 1000000) with
  | true => exact ⟨⟨by show 0 ≤ 1048576; omega, by show 0 ≤ 1048576; omega, by show 0 ≤ 1048576; omega, by show 0 ≤ 1048576; omega, by show 0 ≤ 1048576; omega⟩, rfl, rfl⟩
  | false => exact ⟨⟨hl _, by show 0 ≤ 1048576; omega, by show 0 ≤ 1048576; omega, hl _, hl _⟩, rfl, rfl⟩
theorem eE {s : Inn} (h : s.Fit) : (Qg s).Fit := ⟨h.bt, h.bw, h.bf, h.bd, h.sb⟩
end Go.Px
end
section
namespace Go.Px
set_option maxRecDepth 100000
structure BatOk (L : Rows) (s n wk : Int) : Prop where
 le : ∀ i, i < L.length → atI L i 0 ≤ 3
 at1 : ∀ i, i < L.length → (atI L i 0 = 1 ↔ (s = (i : Int) + 1 ∨ n = (i : Int) + 1))
 here : CS L = true → s ≠ 0 ∨ n ≠ 0
 ne : s ≠ 0 → s ≠ n
 wk : wk = V9 L
end Go.Px
end
section
namespace Go.Px
set_option maxRecDepth 100000
theorem eN {r : Rul} {s : Inn} (h : InnOk r s) : 2 ≤ r.side ∧ r.side ≤ 11 := (K6 h.code).side
end Go.Px
end
section
namespace Go.Px
set_option maxRecDepth 100000
structure Small (s : Inn) : Prop where
 target : s.target ≤ 999999900
 runs : s.runs ≤ 999999900
 wides : s.wides ≤ 999999900
 noballs : s.noballs ≤ 999999900
 byes : s.byes ≤ 999999900
 legbyes : s.legbyes ≤ 999999900
 pens : s.pens ≤ 999999900
 complete : s.complete ≤ 999999900
 ballage : s.ballage ≤ 999999900
 rev1 : s.rev1 ≤ 999999900
 rev2 : s.rev2 ≤ 999999900
 bowled : ∀ j, j < s.bowled.length → atI s.bowled j 0 ≤ 999999900
end Go.Px
end
