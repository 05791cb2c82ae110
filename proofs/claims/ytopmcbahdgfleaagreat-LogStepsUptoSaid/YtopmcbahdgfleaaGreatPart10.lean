/- Part 10. -/
import Derived.Test.YtopmcbahdgfleaaGreatPart09
set_option linter.unusedVariables false
set_option linter.unusedSimpArgs false
section
namespace Go.Px
set_option maxRecDepth 100000
structure Lens (s t : Inn) : Prop where
 bt : t.batters.length = s.batters.length
 bd : t.bowled.length = s.bowled.length
 sb : t.subs.length = s.subs.length
 bw : t.bowlers.length ≤ s.bowlers.length + 1
 bf : t.before.length ≤ s.before.length + s.bowlers.length + 1
theorem Lens.refl (s : Inn) : Lens s s := ⟨rfl, rfl, rfl, by omega, by omega⟩
theorem P_c {α : Type} {P : α → Prop} (b : Bool) (x y : α) (hx : P x) (hy : P y) : P (cond b x y) := by cases b <;> assumption
theorem ZR (s : Inn) (d : Del) : Lens s (D1 s d) := by
 have hb : ∀ (b : Bool), (cond b (LR s.batters s.striker 2) s.batters).length = s.batters.length := fun b => by cases b <;> simp [Jb]
 have hc : ∀ (b : Bool), (cond b (LR s.batters s.other 2) s.batters).length = s.batters.length := fun b => by cases b <;> simp [Jb]
 unfold D1
 cases (!(d.runs.tmod 2 == 0) != d.crossed) <;> refine P_c _ _ _ ⟨hb _, rfl, rfl, ?_, ?_⟩ (P_c _ _ _ ⟨hc _, rfl, rfl, ?_, ?_⟩ ⟨rfl, rfl, rfl, ?_, ?_⟩) <;> simp <;> omega
theorem Xj (r : Rul) (s : Inn) (c : Bool) : Lens s (I9 r s c).1 := by
 have hl : (cond (IY s.bowlers s.bowlers.length s.bowler) s.bowlers (s.bowlers ++ [[.int s.bowler]])).length ≤ s.bowlers.length + 1 := by
  cases IY s.bowlers s.bowlers.length s.bowler <;> simp
 have hd : (cond c (LR s.bowled s.bowler (inc (atI s.bowled (ix s.bowler) 0))) s.bowled).length = s.bowled.length := by cases c <;> simp [Jb]
 unfold I9
 refine P_c (P := fun x : Inn × Bool => Lens s x.1) _ _ _ (Lens.refl s) (P_c (P := fun x : Inn × Bool => Lens s x.1) _ _ _ ⟨rfl, hd, rfl, hl, by simp; omega⟩ ⟨rfl, hd, rfl, by simp, ?_⟩)
 simp only
 omega
def dX (a b c d : Int) : Int := cond (!(a == 0)) a (cond (!(b == 0)) b (cond (!(c == 0)) c (cond (!(d == 0)) d 0)))
def N7 (r : Rul) (s : Inn) (d : Del) : Int :=
 cond (K6 s.batters s.striker s.other) 6 (cond (s.bowler == 0) 7 (dX (Sx r s) (KQ d) (V8 d s.freehit) (TY s d)))
theorem UK {N : Nat} {r1 r2 r3 r4 r5 r6 r7 r9 r10 r11 r12 : Int} {r8 : Bool} {r0 : ByteArray} {r13 : Rows} {s0 s1 s2 s3 s4 s5 s6 s7 s8 s9 s10 s11 s12 s13 s15 s21 s22 s23 s25 s26 s27 : Int} {s18 s20 : Bool} {s14 s16 s17 s19 s24 : Rows} {d0 d1 d2 d3 d4 d6 d7 d8 d9 d11 : Int} {d5 d10 : Bool} (h : Fit s14 s16 s17 s19 s24) (hN : 2097152 < N) (h13 : r13.length ≤ 1048576) : DZ N [.str r0, .int r1, .int r2, .int r3, .int r4, .int r5, .int r6, .int r7, .bool r8, .int r9, .int r10, .int r11, .int r12, .rows r13, .int s0, .int s1, .int s2, .int s3, .int s4, .int s5, .int s6, .int s7, .int s8, .int s9, .int s10, .int s11, .int s12, .int s13, .rows s14, .int s15, .rows s16, .rows s17, .bool s18, .rows s19, .bool s20, .int s21, .int s22, .int s23, .rows s24, .int s25, .int s26, .int s27, .int d0, .int d1, .int d2, .int d3, .int d4, .bool d5, .int d6, .int d7, .int d8, .int d9, .bool d10, .int d11] = some [.int (N7 (⟨r0, r1, r2, r3, r4, r5, r6, r7, r8, r9, r10, r11, r12, r13⟩ : Rul) (⟨s0, s1, s2, s3, s4, s5, s6, s7, s8, s9, s10, s11, s12, s13, s14, s15, s16, s17, s18, s19, s20, s21, s22, s23, s24, s25, s26, s27⟩ : Inn) (⟨d0, d1, d2, d3, d4, d5, d6, d7, d8, d9, d10, d11⟩ : Del))] := by
 show FM (std (Bh N) N) (xOf _) = _
 generalize hres : (some [.int (N7 (⟨r0, r1, r2, r3, r4, r5, r6, r7, r8, r9, r10, r11, r12, r13⟩ : Rul) (⟨s0, s1, s2, s3, s4, s5, s6, s7, s8, s9, s10, s11, s12, s13, s14, s15, s16, s17, s18, s19, s20, s21, s22, s23, s24, s25, s26, s27⟩ : Inn) (⟨d0, d1, d2, d3, d4, d5, d6, d7, d8, d9, d10, d11⟩ : Del))] : Option (List PV)) = RR
 simp only [FM, J4, JV, LD, Hc, LA, std, xOf, PXb, P1 h.bt hN, YI h hN h13, OE, Rd hN, YP h]
 subst hres; simp only [N7]
 cases K6 s14 s12 s13 <;> try rfl
 cases s15 == 0 <;> try rfl
 simp only [PXb]
 generalize Sx (⟨r0, r1, r2, r3, r4, r5, r6, r7, r8, r9, r10, r11, r12, r13⟩ : Rul) (⟨s0, s1, s2, s3, s4, s5, s6, s7, s8, s9, s10, s11, s12, s13, s14, s15, s16, s17, s18, s19, s20, s21, s22, s23, s24, s25, s26, s27⟩ : Inn) = a
 generalize KQ (⟨d0, d1, d2, d3, d4, d5, d6, d7, d8, d9, d10, d11⟩ : Del) = b
 generalize V8 (⟨d0, d1, d2, d3, d4, d5, d6, d7, d8, d9, d10, d11⟩ : Del) s20 = c
 generalize TY (⟨s0, s1, s2, s3, s4, s5, s6, s7, s8, s9, s10, s11, s12, s13, s14, s15, s16, s17, s18, s19, s20, s21, s22, s23, s24, s25, s26, s27⟩ : Inn) (⟨d0, d1, d2, d3, d4, d5, d6, d7, d8, d9, d10, d11⟩ : Del) = e
 refine Ac (CW (len := 4) (fun i => cond (!(atI [[.int a], [.int b], [.int c], [.int e]] i 0 == 0)) (some [.int (atI [[.int a], [.int b], [.int c], [.int e]] i 0)]) none) ?_ ?_ 4 0 N (by omega) (by omega)) ?_
 ·intro self
  rfl
 ·intro i self hi
  simp only [PXb, Al (show i ≤ 1099511627776 by omega), List.length_cons, List.length_nil, Nat.reduceAdd, BC hi, Ag hi, CJ]
  cases atI [[.int a], [.int b], [.int c], [.int e]] i 0 == 0 <;> rfl
 ·refine (WP _).trans (congrArg (fun z => some [PV.int z]) ?_)
  unfold dX
  simp only [Bm]
  rw [show atI [[.int a], [.int b], [.int c], [.int e]] 0 0 = a from rfl, show atI [[.int a], [.int b], [.int c], [.int e]] (0 + 1) 0 = b from rfl, show atI [[.int a], [.int b], [.int c], [.int e]] (0 + 1 + 1) 0 = c from rfl, show atI [[.int a], [.int b], [.int c], [.int e]] (0 + 1 + 1 + 1) 0 = e from rfl]
  cases a == 0 <;> try rfl
  cases b == 0 <;> try rfl
  cases c == 0 <;> try rfl
  cases e == 0 <;> rfl
theorem Q5 {s t : Inn} (l : Lens s t) (h : s.Fit) (hw : s.before.length + s.bowlers.length ≤ 1048575) : t.Fit := ⟨l.bt ▸ h.bt, by have := l.bw; omega, by have := l.bf; omega, l.bd ▸ h.bd, l.sb ▸ h.sb⟩
theorem dG (s : Inn) (d : Del) : (D1 s d).bowlers = s.bowlers := by
 unfold D1
 cases (!(d.runs.tmod 2 == 0) != d.crossed) <;> exact P_c (P := fun x : Inn => x.bowlers = s.bowlers) _ _ _ rfl (P_c (P := fun x : Inn => x.bowlers = s.bowlers) _ _ _ rfl rfl)
theorem dK (s : Inn) (d : Del) : (D1 s d).before = s.before := by
 unfold D1
 cases (!(d.runs.tmod 2 == 0) != d.crossed) <;> exact P_c (P := fun x : Inn => x.before = s.before) _ _ _ rfl (P_c (P := fun x : Inn => x.before = s.before) _ _ _ rfl rfl)
@[reducible] def Se (t : Inn) (a b e f g : Int) : Inn := ⟨t.side, t.target, t.overs, a, t.wickets, b, e, f, g, t.pens, t.complete, t.inover, t.striker, t.other, t.batters, t.bowler, t.bowlers, t.before, t.fresh, t.bowled, t.freehit, t.ballage, t.keeper, t.outside, t.subs, t.rev1, t.rev2, t.ending⟩
def Tp (r : Rul) (s : Inn) (d : Del) : Inn × Int :=
  cond (!(N7 r s d == 0)) (s, N7 r s d)
    (let c := BN r d
     let t := D1 s d
     let o := I9 r (Se t (IntKind.i64.wrap (t.runs + ZC c)) (IntKind.i64.wrap (t.wides + c.wides)) (IntKind.i64.wrap (t.noballs + c.noballs)) (IntKind.i64.wrap (t.byes + c.byes)) (IntKind.i64.wrap (t.legbyes + c.legbyes))) c.counts
     let t : Inn := cond o.2 (ax o.1) o.1
     ({ t with freehit := cond (d.type == 1) false (cond (d.type == 3 && r.freehit) true o.1.freehit) }, 0))
theorem XM {N : Nat} {r1 r2 r3 r4 r5 r6 r7 r9 r10 r11 r12 : Int} {r8 : Bool} {r0 : ByteArray} {r13 : Rows} {s0 s1 s2 s3 s4 s5 s6 s7 s8 s9 s10 s11 s12 s13 s15 s21 s22 s23 s25 s26 s27 : Int} {s18 s20 : Bool} {s14 s16 s17 s19 s24 : Rows} {d0 d1 d2 d3 d4 d6 d7 d8 d9 d11 : Int} {d5 d10 : Bool} (h : Fit s14 s16 s17 s19 s24) (hw : s17.length + s16.length ≤ 1000000) (hN : 2097152 < N) (hs : r0.size ≤ 1048576) (h13 : r13.length ≤ 1048576) : Fn N [.str r0, .int r1, .int r2, .int r3, .int r4, .int r5, .int r6, .int r7, .bool r8, .int r9, .int r10, .int r11, .int r12, .rows r13, .int s0, .int s1, .int s2, .int s3, .int s4, .int s5, .int s6, .int s7, .int s8, .int s9, .int s10, .int s11, .int s12, .int s13, .rows s14, .int s15, .rows s16, .rows s17, .bool s18, .rows s19, .bool s20, .int s21, .int s22, .int s23, .rows s24, .int s25, .int s26, .int s27, .int d0, .int d1, .int d2, .int d3, .int d4, .bool d5, .int d6, .int d7, .int d8, .int d9, .bool d10, .int d11] = some (Az (Tp (⟨r0, r1, r2, r3, r4, r5, r6, r7, r8, r9, r10, r11, r12, r13⟩ : Rul) (⟨s0, s1, s2, s3, s4, s5, s6, s7, s8, s9, s10, s11, s12, s13, s14, s15, s16, s17, s18, s19, s20, s21, s22, s23, s24, s25, s26, s27⟩ : Inn) (⟨d0, d1, d2, d3, d4, d5, d6, d7, d8, d9, d10, d11⟩ : Del))) := by
 show IP (std (BR N) N) (xOf _) = _
 generalize hres : (some (Az (Tp (⟨r0, r1, r2, r3, r4, r5, r6, r7, r8, r9, r10, r11, r12, r13⟩ : Rul) (⟨s0, s1, s2, s3, s4, s5, s6, s7, s8, s9, s10, s11, s12, s13, s14, s15, s16, s17, s18, s19, s20, s21, s22, s23, s24, s25, s26, s27⟩ : Inn) (⟨d0, d1, d2, d3, d4, d5, d6, d7, d8, d9, d10, d11⟩ : Del))) : Option (List PV)) = RR
 have l1 := ZR (⟨s0, s1, s2, s3, s4, s5, s6, s7, s8, s9, s10, s11, s12, s13, s14, s15, s16, s17, s18, s19, s20, s21, s22, s23, s24, s25, s26, s27⟩ : Inn) (⟨d0, d1, d2, d3, d4, d5, d6, d7, d8, d9, d10, d11⟩ : Del)
 have f1 := Q5 l1 h (by simp only; omega)
 have w1 : (D1 (⟨s0, s1, s2, s3, s4, s5, s6, s7, s8, s9, s10, s11, s12, s13, s14, s15, s16, s17, s18, s19, s20, s21, s22, s23, s24, s25, s26, s27⟩ : Inn) (⟨d0, d1, d2, d3, d4, d5, d6, d7, d8, d9, d10, d11⟩ : Del)).bowlers.length = s16.length := congrArg List.length (dG _ _)
 have w2 : (D1 (⟨s0, s1, s2, s3, s4, s5, s6, s7, s8, s9, s10, s11, s12, s13, s14, s15, s16, s17, s18, s19, s20, s21, s22, s23, s24, s25, s26, s27⟩ : Inn) (⟨d0, d1, d2, d3, d4, d5, d6, d7, d8, d9, d10, d11⟩ : Del)).before.length = s17.length := congrArg List.length (dK _ _)
 have l2 := fun (x : Rul) (c : Bool) (a b e f g : Int) => Xj x (Se (D1 (⟨s0, s1, s2, s3, s4, s5, s6, s7, s8, s9, s10, s11, s12, s13, s14, s15, s16, s17, s18, s19, s20, s21, s22, s23, s24, s25, s26, s27⟩ : Inn) (⟨d0, d1, d2, d3, d4, d5, d6, d7, d8, d9, d10, d11⟩ : Del)) a b e f g) c
 have f2 := fun (x : Rul) (c : Bool) (a b e f g : Int) => Q5 (l2 x c a b e f g) f1 (show (D1 (⟨s0, s1, s2, s3, s4, s5, s6, s7, s8, s9, s10, s11, s12, s13, s14, s15, s16, s17, s18, s19, s20, s21, s22, s23, s24, s25, s26, s27⟩ : Inn) (⟨d0, d1, d2, d3, d4, d5, d6, d7, d8, d9, d10, d11⟩ : Del)).before.length + (D1 (⟨s0, s1, s2, s3, s4, s5, s6, s7, s8, s9, s10, s11, s12, s13, s14, s15, s16, s17, s18, s19, s20, s21, s22, s23, s24, s25, s26, s27⟩ : Inn) (⟨d0, d1, d2, d3, d4, d5, d6, d7, d8, d9, d10, d11⟩ : Del)).bowlers.length ≤ 1048575 by omega)
 simp only [IP, Ls, K9, KK, KU, Nf, Np, Lc, std, xOf, PXb, PXc, PXn, PXm, Nat.reduceAdd, Int.reduceBEq, UK h hN h13, Bi h, NX, Yx h, Uw, Cre.ls, Ze f1 (show (D1 (⟨s0, s1, s2, s3, s4, s5, s6, s7, s8, s9, s10, s11, s12, s13, s14, s15, s16, s17, s18, s19, s20, s21, s22, s23, s24, s25, s26, s27⟩ : Inn) (⟨d0, d1, d2, d3, d4, d5, d6, d7, d8, d9, d10, d11⟩ : Del)).bowlers.length ≤ 1048575 by omega) hN hs, dl, Wv (f2 _ _ _ _ _ _ _)]
 subst hres; simp only [Tp, Se]
 cases N7 (⟨r0, r1, r2, r3, r4, r5, r6, r7, r8, r9, r10, r11, r12, r13⟩ : Rul) (⟨s0, s1, s2, s3, s4, s5, s6, s7, s8, s9, s10, s11, s12, s13, s14, s15, s16, s17, s18, s19, s20, s21, s22, s23, s24, s25, s26, s27⟩ : Inn) (⟨d0, d1, d2, d3, d4, d5, d6, d7, d8, d9, d10, d11⟩ : Del) == 0 with
 | false => rfl
 | true =>
  obtain ⟨o, ho⟩ : ∃ o, o = I9 (⟨r0, r1, r2, r3, r4, r5, r6, r7, r8, r9, r10, r11, r12, r13⟩ : Rul) (Se (D1 (⟨s0, s1, s2, s3, s4, s5, s6, s7, s8, s9, s10, s11, s12, s13, s14, s15, s16, s17, s18, s19, s20, s21, s22, s23, s24, s25, s26, s27⟩ : Inn) (⟨d0, d1, d2, d3, d4, d5, d6, d7, d8, d9, d10, d11⟩ : Del)) (IntKind.i64.wrap ((D1 (⟨s0, s1, s2, s3, s4, s5, s6, s7, s8, s9, s10, s11, s12, s13, s14, s15, s16, s17, s18, s19, s20, s21, s22, s23, s24, s25, s26, s27⟩ : Inn) (⟨d0, d1, d2, d3, d4, d5, d6, d7, d8, d9, d10, d11⟩ : Del)).runs + ZC (BN (⟨r0, r1, r2, r3, r4, r5, r6, r7, r8, r9, r10, r11, r12, r13⟩ : Rul) (⟨d0, d1, d2, d3, d4, d5, d6, d7, d8, d9, d10, d11⟩ : Del)))) (IntKind.i64.wrap ((D1 (⟨s0, s1, s2, s3, s4, s5, s6, s7, s8, s9, s10, s11, s12, s13, s14, s15, s16, s17, s18, s19, s20, s21, s22, s23, s24, s25, s26, s27⟩ : Inn) (⟨d0, d1, d2, d3, d4, d5, d6, d7, d8, d9, d10, d11⟩ : Del)).wides + (BN (⟨r0, r1, r2, r3, r4, r5, r6, r7, r8, r9, r10, r11, r12, r13⟩ : Rul) (⟨d0, d1, d2, d3, d4, d5, d6, d7, d8, d9, d10, d11⟩ : Del)).wides)) (IntKind.i64.wrap ((D1 (⟨s0, s1, s2, s3, s4, s5, s6, s7, s8, s9, s10, s11, s12, s13, s14, s15, s16, s17, s18, s19, s20, s21, s22, s23, s24, s25, s26, s27⟩ : Inn) (⟨d0, d1, d2, d3, d4, d5, d6, d7, d8, d9, d10, d11⟩ : Del)).noballs + (BN (⟨r0, r1, r2, r3, r4, r5, r6, r7, r8, r9, r10, r11, r12, r13⟩ : Rul) (⟨d0, d1, d2, d3, d4, d5, d6, d7, d8, d9, d10, d11⟩ : Del)).noballs)) (IntKind.i64.wrap ((D1 (⟨s0, s1, s2, s3, s4, s5, s6, s7, s8, s9, s10, s11, s12, s13, s14, s15, s16, s17, s18, s19, s20, s21, s22, s23, s24, s25, s26, s27⟩ : Inn) (⟨d0, d1, d2, d3, d4, d5, d6, d7, d8, d9, d10, d11⟩ : Del)).byes + (BN (⟨r0, r1, r2, r3, r4, r5, r6, r7, r8, r9, r10, r11, r12, r13⟩ : Rul) (⟨d0, d1, d2, d3, d4, d5, d6, d7, d8, d9, d10, d11⟩ : Del)).byes)) (IntKind.i64.wrap ((D1 (⟨s0, s1, s2, s3, s4, s5, s6, s7, s8, s9, s10, s11, s12, s13, s14, s15, s16, s17, s18, s19, s20, s21, s22, s23, s24, s25, s26, s27⟩ : Inn) (⟨d0, d1, d2, d3, d4, d5, d6, d7, d8, d9, d10, d11⟩ : Del)).legbyes + (BN (⟨r0, r1, r2, r3, r4, r5, r6, r7, r8, r9, r10, r11, r12, r13⟩ : Rul) (⟨d0, d1, d2, d3, d4, d5, d6, d7, d8, d9, d10, d11⟩ : Del)).legbyes))) (BN (⟨r0, r1, r2, r3, r4, r5, r6, r7, r8, r9, r10, r11, r12, r13⟩ : Rul) (⟨d0, d1, d2, d3, d4, d5, d6, d7, d8, d9, d10, d11⟩ : Del)).counts := ⟨_, rfl⟩
  simp only [Se, ZC] at ho ⊢
  simp only [← ho]
  obtain ⟨o1, o2⟩ := o
  cases o2 <;> cases d0 == 1 <;> cases d0 == 3 <;> cases r8 <;> rfl
theorem eG (r : Rul) (s : Inn) (b : Bool) (a c d e f : Int) : I9 r (Se s a c d e f) b = (Se (I9 r s b).1 a c d e f, (I9 r s b).2) := by
 unfold I9 Se
 simp only
 cases (!inR s.bowler s.bowled.length || !(A9 r == 0)) with
 | true => rfl
 | false =>
  simp only [cond_false]
  cases iLt (cond b (inc s.inover) s.inover) r.balls <;> rfl
def LV (r : Rul) (s : Inn) (side : Int) : Inn × Int := cond (!(side == s.side)) (s, 2) (cond (!(r.overs == 0)) (s, 20) ({ s with ending := 4 }, 0))
theorem T7 {N : Nat} {r1 r2 r3 r4 r5 r6 r7 r9 r10 r11 r12 : Int} {r8 : Bool} {r0 : ByteArray} {r13 : Rows} {s0 s1 s2 s3 s4 s5 s6 s7 s8 s9 s10 s11 s12 s13 s15 s21 s22 s23 s25 s26 s27 : Int} {s18 s20 : Bool} {s14 s16 s17 s19 s24 : Rows} {e0 e1 e2 e3 e5 e6 e7 e8 e9 e10 e11 e13 e14 e15 e16 e18 : Int} {e4 e12 e17 : Bool} (h : Fit s14 s16 s17 s19 s24) : DR N [.str r0, .int r1, .int r2, .int r3, .int r4, .int r5, .int r6, .int r7, .bool r8, .int r9, .int r10, .int r11, .int r12, .rows r13, .int s0, .int s1, .int s2, .int s3, .int s4, .int s5, .int s6, .int s7, .int s8, .int s9, .int s10, .int s11, .int s12, .int s13, .rows s14, .int s15, .rows s16, .rows s17, .bool s18, .rows s19, .bool s20, .int s21, .int s22, .int s23, .rows s24, .int s25, .int s26, .int s27, .int e0, .int e1, .int e2, .int e3, .bool e4, .int e5, .int e6, .int e7, .int e8, .int e9, .int e10, .int e11, .bool e12, .int e13, .int e14, .int e15, .int e16, .bool e17, .int e18] = some (Az (LV (⟨r0, r1, r2, r3, r4, r5, r6, r7, r8, r9, r10, r11, r12, r13⟩ : Rul) (⟨s0, s1, s2, s3, s4, s5, s6, s7, s8, s9, s10, s11, s12, s13, s14, s15, s16, s17, s18, s19, s20, s21, s22, s23, s24, s25, s26, s27⟩ : Inn) e1)) := by
 show FR (std (G0 N) N) (xOf _) = _
 generalize hres : (some (Az (LV (⟨r0, r1, r2, r3, r4, r5, r6, r7, r8, r9, r10, r11, r12, r13⟩ : Rul) (⟨s0, s1, s2, s3, s4, s5, s6, s7, s8, s9, s10, s11, s12, s13, s14, s15, s16, s17, s18, s19, s20, s21, s22, s23, s24, s25, s26, s27⟩ : Inn) e1)) : Option (List PV)) = RR
 simp only [FR, J5, std, xOf, PXb, PXc, PXn, PXm, Nat.reduceAdd, Int.reduceBEq, Bi h]
 subst hres; simp only [LV]
 cases e1 == s0 <;> cases r3 == 0 <;> rfl
def Sw (s : Inn) : Inn := { s with runs := IntKind.i64.wrap (s.runs + 5), pens := IntKind.i64.wrap (s.pens + 5) }
theorem NG {N : Nat} {s0 s1 s2 s3 s4 s5 s6 s7 s8 s9 s10 s11 s12 s13 s15 s21 s22 s23 s25 s26 s27 : Int} {s18 s20 : Bool} {s14 s16 s17 s19 s24 : Rows} (h : Fit s14 s16 s17 s19 s24) : Be N [.int s0, .int s1, .int s2, .int s3, .int s4, .int s5, .int s6, .int s7, .int s8, .int s9, .int s10, .int s11, .int s12, .int s13, .rows s14, .int s15, .rows s16, .rows s17, .bool s18, .rows s19, .bool s20, .int s21, .int s22, .int s23, .rows s24, .int s25, .int s26, .int s27] = some (Sw (⟨s0, s1, s2, s3, s4, s5, s6, s7, s8, s9, s10, s11, s12, s13, s14, s15, s16, s17, s18, s19, s20, s21, s22, s23, s24, s25, s26, s27⟩ : Inn)).ls := by
 show FO (std (G6 N) N) (xOf _) = _
 generalize hres : (some (Sw (⟨s0, s1, s2, s3, s4, s5, s6, s7, s8, s9, s10, s11, s12, s13, s14, s15, s16, s17, s18, s19, s20, s21, s22, s23, s24, s25, s26, s27⟩ : Inn)).ls : Option (List PV)) = RR
 simp only [FO, J9, std, xOf, PXb, PXc, PXn, PXm, Nat.reduceAdd, Int.reduceBEq, Bi h]
 subst hres; simp only [Sw]
 rfl
def LS (s : Inn) (side runs : Int) : Inn × Int :=
 cond (!(runs == 5)) (s, 23) (cond (side == s.side) (Sw s, 0) ({ s with target := cond (iLt 0 s.target) (IntKind.i64.wrap (s.target + 5)) s.target }, 0))
theorem T4 {N : Nat} {s0 s1 s2 s3 s4 s5 s6 s7 s8 s9 s10 s11 s12 s13 s15 s21 s22 s23 s25 s26 s27 : Int} {s18 s20 : Bool} {s14 s16 s17 s19 s24 : Rows} {e0 e1 e2 e3 e5 e6 e7 e8 e9 e10 e11 e13 e14 e15 e16 e18 : Int} {e4 e12 e17 : Bool} (h : Fit s14 s16 s17 s19 s24) : Da N [.int s0, .int s1, .int s2, .int s3, .int s4, .int s5, .int s6, .int s7, .int s8, .int s9, .int s10, .int s11, .int s12, .int s13, .rows s14, .int s15, .rows s16, .rows s17, .bool s18, .rows s19, .bool s20, .int s21, .int s22, .int s23, .rows s24, .int s25, .int s26, .int s27, .int e0, .int e1, .int e2, .int e3, .bool e4, .int e5, .int e6, .int e7, .int e8, .int e9, .int e10, .int e11, .bool e12, .int e13, .int e14, .int e15, .int e16, .bool e17, .int e18] = some (Az (LS (⟨s0, s1, s2, s3, s4, s5, s6, s7, s8, s9, s10, s11, s12, s13, s14, s15, s16, s17, s18, s19, s20, s21, s22, s23, s24, s25, s26, s27⟩ : Inn) e1 e5)) := by
 show FQ (std (EJ N) N) (xOf _) = _
 generalize hres : (some (Az (LS (⟨s0, s1, s2, s3, s4, s5, s6, s7, s8, s9, s10, s11, s12, s13, s14, s15, s16, s17, s18, s19, s20, s21, s22, s23, s24, s25, s26, s27⟩ : Inn) e1 e5)) : Option (List PV)) = RR
 simp only [FQ, Is, J6, std, xOf, PXb, PXc, PXn, PXm, Nat.reduceAdd, Int.reduceBEq, Bi h, NG h]
 subst hres; simp only [LS]
 cases e5 == 5 <;> cases e1 == s0 <;> cases iLt 0 s1 <;> rfl
def LT (r : Rul) (s : Inn) (side : Int) (yes : Bool) : Inn × Int :=
 cond (!s.fresh || iLe r.reviews (cond (side == 2) s.rev2 s.rev1)) (s, 24) (cond (!yes) ({ s with rev1 := cond (side == 1) (inc s.rev1) s.rev1, rev2 := cond (side == 2) (inc s.rev2) s.rev2 }, 0) (s, 0))
theorem wr1 : IntKind.i64.wrap (1 - 1) = 0 := rfl
theorem wr2 : IntKind.i64.wrap (2 - 1) = 1 := rfl
theorem ZI : iIn 0 2 = true := rfl
theorem Z9 : iIn 1 2 = true := rfl
theorem VI {N : Nat} {r1 r2 r3 r4 r5 r6 r7 r9 r10 r11 r12 : Int} {r8 : Bool} {r0 : ByteArray} {r13 : Rows} {s0 s1 s2 s3 s4 s5 s6 s7 s8 s9 s10 s11 s12 s13 s15 s21 s22 s23 s25 s26 s27 : Int} {s18 s20 : Bool} {s14 s16 s17 s19 s24 : Rows} {e0 e1 e2 e3 e5 e6 e7 e8 e9 e10 e11 e13 e14 e15 e16 e18 : Int} {e4 e12 e17 : Bool} (h : Fit s14 s16 s17 s19 s24) (he : e1 = 1 ∨ e1 = 2) : Dy N [.str r0, .int r1, .int r2, .int r3, .int r4, .int r5, .int r6, .int r7, .bool r8, .int r9, .int r10, .int r11, .int r12, .rows r13, .int s0, .int s1, .int s2, .int s3, .int s4, .int s5, .int s6, .int s7, .int s8, .int s9, .int s10, .int s11, .int s12, .int s13, .rows s14, .int s15, .rows s16, .rows s17, .bool s18, .rows s19, .bool s20, .int s21, .int s22, .int s23, .rows s24, .int s25, .int s26, .int s27, .int e0, .int e1, .int e2, .int e3, .bool e4, .int e5, .int e6, .int e7, .int e8, .int e9, .int e10, .int e11, .bool e12, .int e13, .int e14, .int e15, .int e16, .bool e17, .int e18] = some (Az (LT (⟨r0, r1, r2, r3, r4, r5, r6, r7, r8, r9, r10, r11, r12, r13⟩ : Rul) (⟨s0, s1, s2, s3, s4, s5, s6, s7, s8, s9, s10, s11, s12, s13, s14, s15, s16, s17, s18, s19, s20, s21, s22, s23, s24, s25, s26, s27⟩ : Inn) e1 e4)) := by
 show D3 (std (Hx N) N) (xOf _) = _
 generalize hres : (some (Az (LT (⟨r0, r1, r2, r3, r4, r5, r6, r7, r8, r9, r10, r11, r12, r13⟩ : Rul) (⟨s0, s1, s2, s3, s4, s5, s6, s7, s8, s9, s10, s11, s12, s13, s14, s15, s16, s17, s18, s19, s20, s21, s22, s23, s24, s25, s26, s27⟩ : Inn) e1 e4)) : Option (List PV)) = RR
 rcases he with he | he <;> subst he
 ·simp only [D3, FB, std, xOf, PXb, PXc, PXn, PXm, Nat.reduceAdd, Int.reduceBEq, Bi h, wr1, wr2, ZI, Z9]
  subst hres; simp only [LT, Int.reduceBEq, beq_self_eq_true, cond_true, cond_false]
  cases s18 <;> cases e4 <;> first | rfl | (cases iLe r11 s25 <;> rfl)
 ·simp only [D3, FB, std, xOf, PXb, PXc, PXn, PXm, Nat.reduceAdd, Int.reduceBEq, Bi h, wr1, wr2, ZI, Z9]
  subst hres; simp only [LT, Int.reduceBEq, beq_self_eq_true, cond_true, cond_false]
  cases s18 <;> cases e4 <;> first | rfl | (cases iLe r11 s26 <;> rfl)
theorem Wd {N : Nat} {r1 r2 r3 r4 r5 r6 r7 r9 r10 r11 r12 : Int} {r8 : Bool} {r0 : ByteArray} {r13 : Rows} {s0 s1 s2 s3 s4 s5 s6 s7 s8 s9 s10 s11 s12 s13 s15 s21 s22 s23 s25 s26 s27 : Int} {s18 s20 : Bool} {s14 s16 s17 s19 s24 : Rows}  : E3 N [.str r0, .int r1, .int r2, .int r3, .int r4, .int r5, .int r6, .int r7, .bool r8, .int r9, .int r10, .int r11, .int r12, .rows r13, .int s0, .int s1, .int s2, .int s3, .int s4, .int s5, .int s6, .int s7, .int s8, .int s9, .int s10, .int s11, .int s12, .int s13, .rows s14, .int s15, .rows s16, .rows s17, .bool s18, .rows s19, .bool s20, .int s21, .int s22, .int s23, .rows s24, .int s25, .int s26, .int s27] = some [.int (Zg r4 s10 s11)] := by
 rfl
def OB (r : Rul) (s : Inn) (runs overs : Int) : Inn × Int :=
  cond (r.overs == 0 || (runs == 0 && overs == 0)) (s, 25) (cond (iLt 0 runs && (s.target == 0 || iLe runs s.runs)) (s, 25)
    (cond (iLt 0 overs && (iLt r.overs overs || iLt (IntKind.i64.wrap (overs * r.balls)) (Zg r.balls s.complete s.inover))) (s, 25)
      ({ s with target := cond (iLt 0 runs) runs s.target, overs := cond (iLt 0 overs) overs s.overs }, 0)))
theorem Ur {N : Nat} {r1 r2 r3 r4 r5 r6 r7 r9 r10 r11 r12 : Int} {r8 : Bool} {r0 : ByteArray} {r13 : Rows} {s0 s1 s2 s3 s4 s5 s6 s7 s8 s9 s10 s11 s12 s13 s15 s21 s22 s23 s25 s26 s27 : Int} {s18 s20 : Bool} {s14 s16 s17 s19 s24 : Rows} {e0 e1 e2 e3 e5 e6 e7 e8 e9 e10 e11 e13 e14 e15 e16 e18 : Int} {e4 e12 e17 : Bool} (h : Fit s14 s16 s17 s19 s24) : D5 N [.str r0, .int r1, .int r2, .int r3, .int r4, .int r5, .int r6, .int r7, .bool r8, .int r9, .int r10, .int r11, .int r12, .rows r13, .int s0, .int s1, .int s2, .int s3, .int s4, .int s5, .int s6, .int s7, .int s8, .int s9, .int s10, .int s11, .int s12, .int s13, .rows s14, .int s15, .rows s16, .rows s17, .bool s18, .rows s19, .bool s20, .int s21, .int s22, .int s23, .rows s24, .int s25, .int s26, .int s27, .int e0, .int e1, .int e2, .int e3, .bool e4, .int e5, .int e6, .int e7, .int e8, .int e9, .int e10, .int e11, .bool e12, .int e13, .int e14, .int e15, .int e16, .bool e17, .int e18] = some (Az (OB (⟨r0, r1, r2, r3, r4, r5, r6, r7, r8, r9, r10, r11, r12, r13⟩ : Rul) (⟨s0, s1, s2, s3, s4, s5, s6, s7, s8, s9, s10, s11, s12, s13, s14, s15, s16, s17, s18, s19, s20, s21, s22, s23, s24, s25, s26, s27⟩ : Inn) e5 e6)) := by
 show GE (std (Eu N) N) (xOf _) = _
 generalize hres : (some (Az (OB (⟨r0, r1, r2, r3, r4, r5, r6, r7, r8, r9, r10, r11, r12, r13⟩ : Rul) (⟨s0, s1, s2, s3, s4, s5, s6, s7, s8, s9, s10, s11, s12, s13, s14, s15, s16, s17, s18, s19, s20, s21, s22, s23, s24, s25, s26, s27⟩ : Inn) e5 e6)) : Option (List PV)) = RR
 simp only [GE, KI, Ke, std, xOf, PXb, PXc, PXn, PXm, Nat.reduceAdd, Int.reduceBEq, Bi h, Wd]
 subst hres; simp only [OB]
 cases (r3 == 0 || e5 == 0 && e6 == 0) <;> try rfl
 cases (iLt 0 e5 && (s1 == 0 || iLe e5 s3)) <;> try rfl
 cases iLt 0 e6 <;> cases iLt r3 e6 <;> try rfl
 simp only [PXb, PXc, PXn, PXm, Nat.reduceAdd, Int.reduceBEq]
 cases iLt (IntKind.i64.wrap (e6 * r4)) (Zg r4 s10 s11) <;> rfl
end Go.Px
end
section
namespace Go.Px
set_option maxRecDepth 100000
def F9 (r : Rul) (s : Inn) (e : Ev) : Inn × Int :=
  cond (e.kind == 2) (Tz s e.player e.other) (cond (e.kind == 3) (Ty r s e.player) (cond (e.kind == 4) (Tp r s e.ball)
    (cond (e.kind == 5) (cond e.yes (Lm s e.player) (Qk s e.player)) (cond (e.kind == 6) (N8 s e.player e.yes) (cond (e.kind == 7) (Ly s e.runs)
      (cond (e.kind == 8) (N5 s e.player) (cond (e.kind == 9) (Qn s e.player e.yes) (cond (e.kind == 10) (Lw r s) (cond (e.kind == 11) (LV r s e.side)
        (cond (e.kind == 13) (LS s e.side e.runs) (cond (e.kind == 14) (LT r s e.side e.yes) (OB r s e.runs e.overs))))))))))))
theorem Xa {e : Ev} (h : (evS e == 0) = true) : (iLt e.kind 1 || iLt 16 e.kind) = false := by
 unfold evS at h
 cases hk : (iLt e.kind 1 || iLt 16 e.kind) with
 | false => rfl
 | true => rw [hk] at h; cases h
theorem fJ {e : Ev} (h : (evS e == 0) = true) (hk : e.kind = 14) : e.side = 1 ∨ e.side = 2 := by
 have h0 := Xa h
 unfold evS at h
 rw [h0] at h
 cases h1 : ZN e with
 | true => rw [h1] at h; cases h
 | false =>
  cases h2 : Uv e with
  | true => rw [h1, h2] at h; cases h
  | false =>
   unfold Uv at h2
   rw [Bool.or_eq_false_iff] at h2
   have h3 := h2.1
   rw [hk, show uS 14 = true from rfl, Bool.and_true] at h3
   simp only [btw, iLe, Bool.not_eq_false', Bool.and_eq_true, decide_eq_true_eq] at h3
   omega
set_option maxHeartbeats 4000000 in
theorem UF {N : Nat} {r1 r2 r3 r4 r5 r6 r7 r9 r10 r11 r12 : Int} {r8 : Bool} {r0 : ByteArray} {r13 : Rows} {s0 s1 s2 s3 s4 s5 s6 s7 s8 s9 s10 s11 s12 s13 s15 s21 s22 s23 s25 s26 s27 : Int} {s18 s20 : Bool} {s14 s16 s17 s19 s24 : Rows} {e0 e1 e2 e3 e5 e6 e7 e8 e9 e10 e11 e13 e14 e15 e16 e18 : Int} {e4 e12 e17 : Bool} (h : Fit s14 s16 s17 s19 s24) (hw : s17.length + s16.length ≤ 1000000) (hN : 2097152 < N) (hs : r0.size ≤ 1048576) (h13 : r13.length ≤ 1048576) (he : (evS (⟨e0, e1, e2, e3, e4, e5, e6, ⟨e7, e8, e9, e10, e11, e12, e13, e14, e15, e16, e17, e18⟩⟩ : Ev) == 0) = true) : DU N [.str r0, .int r1, .int r2, .int r3, .int r4, .int r5, .int r6, .int r7, .bool r8, .int r9, .int r10, .int r11, .int r12, .rows r13, .int s0, .int s1, .int s2, .int s3, .int s4, .int s5, .int s6, .int s7, .int s8, .int s9, .int s10, .int s11, .int s12, .int s13, .rows s14, .int s15, .rows s16, .rows s17, .bool s18, .rows s19, .bool s20, .int s21, .int s22, .int s23, .rows s24, .int s25, .int s26, .int s27, .int e0, .int e1, .int e2, .int e3, .bool e4, .int e5, .int e6, .int e7, .int e8, .int e9, .int e10, .int e11, .bool e12, .int e13, .int e14, .int e15, .int e16, .bool e17, .int e18] = some (Az (F9 (⟨r0, r1, r2, r3, r4, r5, r6, r7, r8, r9, r10, r11, r12, r13⟩ : Rul) (⟨s0, s1, s2, s3, s4, s5, s6, s7, s8, s9, s10, s11, s12, s13, s14, s15, s16, s17, s18, s19, s20, s21, s22, s23, s24, s25, s26, s27⟩ : Inn) (⟨e0, e1, e2, e3, e4, e5, e6, ⟨e7, e8, e9, e10, e11, e12, e13, e14, e15, e16, e17, e18⟩⟩ : Ev))) := by
  show Dc (std (AX N) N) (xOf _) = _
  generalize hres : (some (Az (F9 (⟨r0, r1, r2, r3, r4, r5, r6, r7, r8, r9, r10, r11, r12, r13⟩ : Rul) (⟨s0, s1, s2, s3, s4, s5, s6, s7, s8, s9, s10, s11, s12, s13, s14, s15, s16, s17, s18, s19, s20, s21, s22, s23, s24, s25, s26, s27⟩ : Inn) (⟨e0, e1, e2, e3, e4, e5, e6, ⟨e7, e8, e9, e10, e11, e12, e13, e14, e15, e16, e17, e18⟩⟩ : Ev))) : Option (List PV)) = RR
  have hsd : e0 = 14 → e1 = 1 ∨ e1 = 2 := fJ (e := (⟨e0, e1, e2, e3, e4, e5, e6, ⟨e7, e8, e9, e10, e11, e12, e13, e14, e15, e16, e17, e18⟩⟩ : Ev)) he
  rcases Xg (Xa he) with hk | hk | hk | hk | hk | hk | hk | hk | hk | hk | hk | hk | hk | hk | hk | hk <;> simp only at hk <;> subst hk <;> clear he
  all_goals (first
    | (have hsd := hsd rfl
       simp only [Dc, FI, Fa, E2, Dt, Ed, EP, ER, Eo, Dd, EO, Dn, Dm, EC, Dw, std, xOf, PXb, PXc, PXn, PXm, Nat.reduceAdd, Int.reduceBEq, VI h hsd]
       subst hres
       rfl)
    | (simp only [Dc, FI, Fa, E2, Dt, Ed, EP, ER, Eo, Dd, EO, Dn, Dm, EC, Dw, std, xOf, PXb, PXc, PXn, PXm, Nat.reduceAdd, Int.reduceBEq, YM h hN, ZY h hN hs, XM h hw hN hs h13, VC h hN, XQ h hN, Vq h hN, V7 h, Xf h, TI h, Wg h hN hs, T7 h, T4 h, Ur h]
       subst hres
       first
       | rfl
       | (cases e4 <;> rfl)))
end Go.Px
end
section
namespace Go.Px
set_option maxRecDepth 100000
theorem Lens.of {s t : Inn} (h1 : t.batters.length = s.batters.length) (h2 : t.bowled.length = s.bowled.length) (h3 : t.subs.length = s.subs.length) (h4 : t.bowlers = s.bowlers) (h5 : t.before = s.before) : Lens s t := ⟨h1, h2, h3, by rw [h4]; omega, by rw [h5]; omega⟩
theorem L_c {s : Inn} (b : Bool) (x y : Inn × Int) (hx : Lens s x.1) (hy : Lens s y.1) : Lens s (cond b x y).1 := by cases b <;> assumption
theorem cW (s : Inn) (p q : Int) : Lens s (Tz s p q).1 := by
 unfold Tz
 exact L_c _ _ _ (Lens.refl s) (L_c _ _ _ (Lens.refl s) (L_c _ _ _ (Lens.refl s) (Lens.of (by simp [Jb]) rfl rfl rfl rfl)))
theorem dT (r : Rul) (s : Inn) (p : Int) : Lens s (Ty r s p).1 := by
 unfold Ty
 exact P_c (P := fun x : Inn => Lens s x) _ _ _ (Lens.of rfl rfl rfl rfl rfl) (Lens.refl s)
theorem cw (r : Rul) (s : Inn) (d : Del) : Lens s (Tp r s d).1 := by
 unfold Tp
 refine L_c _ _ _ (Lens.refl s) ?_
 have l1 := ZR s d
 have w1 := dG s d
 have w2 := dK s d
 simp only [eG]
 have l2 := Xj r (D1 s d) (BN r d).counts
 cases (I9 r (D1 s d) (BN r d).counts).2
 ·exact ⟨l2.bt.trans l1.bt, l2.bd.trans l1.bd, l2.sb.trans l1.sb, by have := l2.bw; rw [w1] at this; exact this, by have := l2.bf; rw [w1, w2] at this; exact this⟩
 ·exact ⟨l2.bt.trans l1.bt, l2.bd.trans l1.bd, l2.sb.trans l1.sb, by have := l2.bw; rw [w1] at this; exact this, by have := l2.bf; rw [w1, w2] at this; exact this⟩
theorem ZO (s : Inn) (p : Int) : Lens s (Lm s p).1 := by
 unfold Lm
 exact L_c _ _ _ (Lens.of (by simp [Jb]) rfl rfl rfl rfl) (Lens.refl s)
theorem bW (s : Inn) (p : Int) : Lens s (Qk s p).1 := by
 unfold Qk
 exact L_c _ _ _ (Lens.of (by simp [Jb]) rfl rfl rfl rfl) (Lens.refl s)
theorem aM (s : Inn) (p : Int) (b : Bool) : Lens s (N8 s p b).1 := by
 unfold N8
 exact L_c _ _ _ (Lens.refl s) (L_c _ _ _ (Lens.refl s) (L_c _ _ _ (Lens.refl s) (L_c _ _ _ (Lens.refl s) (Lens.of (by simp [Jb]) rfl rfl rfl rfl))))
theorem aB (s : Inn) (n : Int) : Lens s (Ly s n).1 := by
 unfold Ly
 exact L_c _ _ _ (Lens.refl s) (Lens.of rfl rfl rfl rfl rfl)
theorem aN (s : Inn) (n : Int) : Lens s (N5 s n).1 := by
 unfold N5
 exact L_c _ _ _ (Lens.refl s) (L_c _ _ _ (Lens.refl s) (L_c _ _ _ (Lens.refl s) (Lens.of rfl rfl rfl rfl rfl)))
theorem cK (s : Inn) (n : Int) (b : Bool) : Lens s (Qn s n b).1 := by
 unfold Qn
 exact L_c _ _ _ (Lens.refl s) (L_c _ _ _ (Lens.refl s) (Lens.of rfl rfl (by simp [eT]) rfl rfl))
theorem ZJ (r : Rul) (s : Inn) : Lens s (Lw r s).1 := by
 unfold Lw
 exact L_c _ _ _ (Lens.refl s) (Lens.of rfl rfl rfl rfl rfl)
theorem Zt (r : Rul) (s : Inn) (n : Int) : Lens s (LV r s n).1 := by
 unfold LV
 exact L_c _ _ _ (Lens.refl s) (L_c _ _ _ (Lens.refl s) (Lens.of rfl rfl rfl rfl rfl))
theorem ZZ (s : Inn) (n m : Int) : Lens s (LS s n m).1 := by
 unfold LS
 exact L_c _ _ _ (Lens.refl s) (L_c _ _ _ (Lens.of rfl rfl rfl rfl rfl) (Lens.of rfl rfl rfl rfl rfl))
theorem aP (r : Rul) (s : Inn) (n : Int) (b : Bool) : Lens s (LT r s n b).1 := by
 unfold LT
 exact L_c _ _ _ (Lens.refl s) (L_c _ _ _ (Lens.of rfl rfl rfl rfl rfl) (Lens.refl s))
theorem aH (r : Rul) (s : Inn) (n m : Int) : Lens s (OB r s n m).1 := by
 unfold OB
 exact L_c _ _ _ (Lens.refl s) (L_c _ _ _ (Lens.refl s) (L_c _ _ _ (Lens.refl s) (Lens.of rfl rfl rfl rfl rfl)))
theorem S9 (r : Rul) (s : Inn) (e : Ev) : Lens s (F9 r s e).1 := by
  unfold F9
  exact L_c _ _ _ (cW ..) (L_c _ _ _ (dT ..) (L_c _ _ _ (cw ..) (L_c _ _ _ (L_c _ _ _ (ZO ..) (bW ..)) (L_c _ _ _ (aM ..) (L_c _ _ _ (aB ..)
    (L_c _ _ _ (aN ..) (L_c _ _ _ (cK ..) (L_c _ _ _ (ZJ ..) (L_c _ _ _ (Zt ..) (L_c _ _ _ (ZZ ..) (L_c _ _ _ (aP ..) (aH ..))))))))))))
def I1 (r : Rul) (s : Inn) : Bool := Qq r.name r.side r.innings r.overs r.balls r.quota r.wide r.noball r.newball r.followon r.reviews r.outside r.power s.batters s.bowlers s.before s.bowled s.subs s.side s.target s.overs s.runs s.wickets s.wides s.noballs s.byes s.legbyes s.pens s.complete s.inover s.striker s.other s.bowler s.ballage s.keeper s.outside s.rev1 s.rev2 s.ending
def gK (r : Rul) (s : Inn) : Int := eO (I1 r s) s.batters s.striker s.other s.target s.overs s.runs s.complete
theorem PP {N : Nat} {r1 r2 r3 r4 r5 r6 r7 r9 r10 r11 r12 : Int} {r8 : Bool} {r0 : ByteArray} {r13 : Rows} {s0 s1 s2 s3 s4 s5 s6 s7 s8 s9 s10 s11 s12 s13 s15 s21 s22 s23 s25 s26 s27 : Int} {s18 s20 : Bool} {s14 s16 s17 s19 s24 : Rows} (h : Fit s14 s16 s17 s19 s24) (hN : 2097152 < N) (hs : r0.size ≤ 1048576) : A1 N [.str r0, .int r1, .int r2, .int r3, .int r4, .int r5, .int r6, .int r7, .bool r8, .int r9, .int r10, .int r11, .int r12, .rows r13, .int s0, .int s1, .int s2, .int s3, .int s4, .int s5, .int s6, .int s7, .int s8, .int s9, .int s10, .int s11, .int s12, .int s13, .rows s14, .int s15, .rows s16, .rows s17, .bool s18, .rows s19, .bool s20, .int s21, .int s22, .int s23, .rows s24, .int s25, .int s26, .int s27] = some [.bool (I1 (⟨r0, r1, r2, r3, r4, r5, r6, r7, r8, r9, r10, r11, r12, r13⟩ : Rul) (⟨s0, s1, s2, s3, s4, s5, s6, s7, s8, s9, s10, s11, s12, s13, s14, s15, s16, s17, s18, s19, s20, s21, s22, s23, s24, s25, s26, s27⟩ : Inn))] := by
 exact Of N _ _ _ _ _ _ _ _ _ _ _ _ _ _ _ _ _ _ _ _ _ _ _ _ _ _ _ _ _ _ _ _ _ _ _ _ _ _ _ _ _ _ hN hs h.bt h.bw h.bf h.bd
theorem U2 {N : Nat} {r1 r2 r3 r4 r5 r6 r7 r9 r10 r11 r12 : Int} {r8 : Bool} {r0 : ByteArray} {r13 : Rows} {s0 s1 s2 s3 s4 s5 s6 s7 s8 s9 s10 s11 s12 s13 s15 s21 s22 s23 s25 s26 s27 : Int} {s18 s20 : Bool} {s14 s16 s17 s19 s24 : Rows} (h : Fit s14 s16 s17 s19 s24) (hN : 2097152 < N) (hs : r0.size ≤ 1048576) : Cm N [.str r0, .int r1, .int r2, .int r3, .int r4, .int r5, .int r6, .int r7, .bool r8, .int r9, .int r10, .int r11, .int r12, .rows r13, .int s0, .int s1, .int s2, .int s3, .int s4, .int s5, .int s6, .int s7, .int s8, .int s9, .int s10, .int s11, .int s12, .int s13, .rows s14, .int s15, .rows s16, .rows s17, .bool s18, .rows s19, .bool s20, .int s21, .int s22, .int s23, .rows s24, .int s25, .int s26, .int s27] = some [.int (gK (⟨r0, r1, r2, r3, r4, r5, r6, r7, r8, r9, r10, r11, r12, r13⟩ : Rul) (⟨s0, s1, s2, s3, s4, s5, s6, s7, s8, s9, s10, s11, s12, s13, s14, s15, s16, s17, s18, s19, s20, s21, s22, s23, s24, s25, s26, s27⟩ : Inn))] := by
 exact UA N _ _ _ _ _ _ _ _ _ _ _ _ _ _ _ _ _ _ _ _ _ _ _ _ _ _ _ _ _ _ _ _ _ _ _ _ _ _ _ _ _ _ hN hs h.bt h.bw h.bf h.bd
def Zk (t : Inn) (b : Bool) : Inn := ⟨t.side, t.target, t.overs, t.runs, t.wickets, t.wides, t.noballs, t.byes, t.legbyes, t.pens, t.complete, t.inover, t.striker, t.other, t.batters, t.bowler, t.bowlers, t.before, b, t.bowled, t.freehit, t.ballage, t.keeper, t.outside, t.subs, t.rev1, t.rev2, t.ending⟩
def W7 (r : Rul) (t : Inn) (b : Bool) : Inn := { Zk t b with ending := cond (t.ending == 0) (gK r (Zk t b)) t.ending }
def ek (s : Inn) (e : Ev) : Bool := e.kind == 1 || e.kind == 12 || e.kind == 16 || (!Du s.batters && !(e.kind == 2))
def Dh (r : Rul) (s : Inn) (e : Ev) : Inn × Int :=
  cond (!I1 r s || !(evS e == 0)) (s, 1) (cond (!(s.ending == 0)) (s, 26) (cond (ek s e) (s, 1)
    (cond (!((F9 r s e).2 == 0)) (s, (F9 r s e).2) (W7 r (F9 r s e).1 (e.kind == 4), 0))))
set_option maxHeartbeats 4000000 in
theorem LU {N : Nat} {r1 r2 r3 r4 r5 r6 r7 r9 r10 r11 r12 : Int} {r8 : Bool} {r0 : ByteArray} {r13 : Rows} {s0 s1 s2 s3 s4 s5 s6 s7 s8 s9 s10 s11 s12 s13 s15 s21 s22 s23 s25 s26 s27 : Int} {s18 s20 : Bool} {s14 s16 s17 s19 s24 : Rows} {e0 e1 e2 e3 e5 e6 e7 e8 e9 e10 e11 e13 e14 e15 e16 e18 : Int} {e4 e12 e17 : Bool} (h : Fit s14 s16 s17 s19 s24) (hw : s17.length + s16.length ≤ 1000000) (hN : 2097152 < N) (hs : r0.size ≤ 1048576) (h13 : r13.length ≤ 1048576) : Fz N [.str r0, .int r1, .int r2, .int r3, .int r4, .int r5, .int r6, .int r7, .bool r8, .int r9, .int r10, .int r11, .int r12, .rows r13, .int s0, .int s1, .int s2, .int s3, .int s4, .int s5, .int s6, .int s7, .int s8, .int s9, .int s10, .int s11, .int s12, .int s13, .rows s14, .int s15, .rows s16, .rows s17, .bool s18, .rows s19, .bool s20, .int s21, .int s22, .int s23, .rows s24, .int s25, .int s26, .int s27, .int e0, .int e1, .int e2, .int e3, .bool e4, .int e5, .int e6, .int e7, .int e8, .int e9, .int e10, .int e11, .bool e12, .int e13, .int e14, .int e15, .int e16, .bool e17, .int e18] = some (Az (Dh (⟨r0, r1, r2, r3, r4, r5, r6, r7, r8, r9, r10, r11, r12, r13⟩ : Rul) (⟨s0, s1, s2, s3, s4, s5, s6, s7, s8, s9, s10, s11, s12, s13, s14, s15, s16, s17, s18, s19, s20, s21, s22, s23, s24, s25, s26, s27⟩ : Inn) (⟨e0, e1, e2, e3, e4, e5, e6, ⟨e7, e8, e9, e10, e11, e12, e13, e14, e15, e16, e17, e18⟩⟩ : Ev))) := by
 show IE (std (Bn N) N) (xOf _) = _
 generalize hres : (some (Az (Dh (⟨r0, r1, r2, r3, r4, r5, r6, r7, r8, r9, r10, r11, r12, r13⟩ : Rul) (⟨s0, s1, s2, s3, s4, s5, s6, s7, s8, s9, s10, s11, s12, s13, s14, s15, s16, s17, s18, s19, s20, s21, s22, s23, s24, s25, s26, s27⟩ : Inn) (⟨e0, e1, e2, e3, e4, e5, e6, ⟨e7, e8, e9, e10, e11, e12, e13, e14, e15, e16, e17, e18⟩⟩ : Ev))) : Option (List PV)) = RR
 have l1 := S9 (⟨r0, r1, r2, r3, r4, r5, r6, r7, r8, r9, r10, r11, r12, r13⟩ : Rul) (⟨s0, s1, s2, s3, s4, s5, s6, s7, s8, s9, s10, s11, s12, s13, s14, s15, s16, s17, s18, s19, s20, s21, s22, s23, s24, s25, s26, s27⟩ : Inn) (⟨e0, e1, e2, e3, e4, e5, e6, ⟨e7, e8, e9, e10, e11, e12, e13, e14, e15, e16, e17, e18⟩⟩ : Ev)
 have f1 := Q5 l1 h (by simp only; omega)
 simp only [IE, L1, FH, LQ, M8, Lt, Eh, std, xOf, PXb, PP h hN hs, R3 hN, Bi h, WJ h.bt hN]
 subst hres; simp only [Dh, ek]
 cases I1 (⟨r0, r1, r2, r3, r4, r5, r6, r7, r8, r9, r10, r11, r12, r13⟩ : Rul) (⟨s0, s1, s2, s3, s4, s5, s6, s7, s8, s9, s10, s11, s12, s13, s14, s15, s16, s17, s18, s19, s20, s21, s22, s23, s24, s25, s26, s27⟩ : Inn)
 ·rfl
 cases he : evS (⟨e0, e1, e2, e3, e4, e5, e6, ⟨e7, e8, e9, e10, e11, e12, e13, e14, e15, e16, e17, e18⟩⟩ : Ev) == 0
 ·simp only [PXb, PXc, PXn, PXm, Nat.reduceAdd, Int.reduceBEq, he]
 simp only [PXb, PXc, PXn, PXm, Nat.reduceAdd, Int.reduceBEq, he]
 cases s27 == 0 <;> try rfl
 cases (e0 == 1 || e0 == 12 || e0 == 16) <;> cases Du s14 <;> cases e0 == 2 <;> try rfl
 all_goals (simp only [PXb, PXc, PXn, PXm, Nat.reduceAdd, Int.reduceBEq, Eh, FH, UF h hw hN hs h13 he, U2 f1 hN hs])
 all_goals (unfold W7 Zk; cases (F9 (⟨r0, r1, r2, r3, r4, r5, r6, r7, r8, r9, r10, r11, r12, r13⟩ : Rul) (⟨s0, s1, s2, s3, s4, s5, s6, s7, s8, s9, s10, s11, s12, s13, s14, s15, s16, s17, s18, s19, s20, s21, s22, s23, s24, s25, s26, s27⟩ : Inn) (⟨e0, e1, e2, e3, e4, e5, e6, ⟨e7, e8, e9, e10, e11, e12, e13, e14, e15, e16, e17, e18⟩⟩ : Ev)).2 == 0 <;> cases (F9 (⟨r0, r1, r2, r3, r4, r5, r6, r7, r8, r9, r10, r11, r12, r13⟩ : Rul) (⟨s0, s1, s2, s3, s4, s5, s6, s7, s8, s9, s10, s11, s12, s13, s14, s15, s16, s17, s18, s19, s20, s21, s22, s23, s24, s25, s26, s27⟩ : Inn) (⟨e0, e1, e2, e3, e4, e5, e6, ⟨e7, e8, e9, e10, e11, e12, e13, e14, e15, e16, e17, e18⟩⟩ : Ev)).1.ending == 0 <;> rfl)
end Go.Px
end
section
namespace Go.Px
set_option maxRecDepth 100000
def eqL (L M : Rows) : Bool := ((L.length : Int) == (M.length : Int)) && !A6 (fun i => !(atI L i 0 == atI M i 0)) L.length 0
def eqB (L M : Rows) : Bool := ((L.length : Int) == (M.length : Int)) && !A6 (fun i => !(atB L i 0 == atB M i 0)) L.length 0
def eqN (s t : Inn) : Bool := s.side == t.side && s.target == t.target && s.overs == t.overs && s.runs == t.runs && s.wickets == t.wickets && (s.wides == t.wides && (s.noballs == t.noballs && (s.byes == t.byes && (s.legbyes == t.legbyes && s.pens == t.pens)))) && s.complete == t.complete && s.inover == t.inover && s.striker == t.striker && s.other == t.other && s.bowler == t.bowler && s.fresh == t.fresh && s.freehit == t.freehit && s.ballage == t.ballage && s.keeper == t.keeper && s.outside == t.outside && s.rev1 == t.rev1 && s.rev2 == t.rev2 && s.ending == t.ending
def WO (s t : Inn) : Bool := eqL s.batters t.batters && (eqB s.subs t.subs && (eqL s.bowlers t.bowlers && (eqL s.before t.before && (eqL s.bowled t.bowled && eqN s t))))
theorem eW (L : Rows) : eqL L L = true := by
 unfold eqL
 rw [beq_self_eq_true, E8.2 (fun j _ _ => by rw [beq_self_eq_true]; rfl)]
 rfl
theorem eU (L : Rows) : eqB L L = true := by
 unfold eqB
 rw [beq_self_eq_true, E8.2 (fun j _ _ => by rw [beq_self_eq_true]; rfl)]
 rfl
theorem cj (s : Inn) : WO s s = true := by
 unfold WO eqN
 simp only [eW, eU, beq_self_eq_true, Bool.and_self]
theorem XU {i len : Nat} {m : Nat} (h : ((len : Int) == (m : Int)) = true) (hi : i < len) : iIn (i : Int) (m : Int) = true := by
 have := beq_iff_eq.1 h
 exact Ag (by omega)
def Rk (r : Rul) : Rul := { r with name := dk r.name 20, power := cut r.power 10 }
theorem ZV (L : Rows) (c : Nat) : (cut L c).length ≤ c := by
 unfold cut
 rw [List.length_drop, List.length_take]
 cases h : iLt (c : Int) (L.length : Int) with
 | true => simp only [cond_true]; omega
 | false => simp only [iLt, decide_eq_false_iff_not] at h; simp only [cond_false]; omega
theorem ZH (r : Rul) (h : r.name.size ≤ 1048576) : (Rk r).name.size ≤ 1048576 := Nat.le_trans (dc _ _) h
theorem YV (r : Rul) : (Rk r).power.length ≤ 1048576 := Nat.le_trans (ZV _ 10) (by omega)
theorem aC {s t : Inn} (r : Rul) (b : Bool) (h : Lens s t) : Lens s (W7 r t b) := ⟨h.bt, h.bd, h.sb, h.bw, h.bf⟩
theorem TH (r : Rul) (s : Inn) (e : Ev) : Lens s (Dh r s e).1 := by
 unfold Dh
 exact L_c _ _ _ (Lens.refl s) (L_c _ _ _ (Lens.refl s) (L_c _ _ _ (Lens.refl s) (L_c _ _ _ (Lens.refl s) (aC r _ (S9 r s e)))))
end Go.Px
end
section
namespace Go.Px
set_option maxRecDepth 100000
theorem Tr {x a b : Int} : btw x a b = true ↔ a ≤ x ∧ x ≤ b := by simp [btw, iLe]
structure RulOk (r : Rul) : Prop where
 side : 2 ≤ r.side ∧ r.side ≤ 11
 innings : 1 ≤ r.innings ∧ r.innings ≤ 2
 overs : 0 ≤ r.overs ∧ r.overs ≤ 90
 balls : 4 ≤ r.balls ∧ r.balls ≤ 8
 quota : 0 ≤ r.quota ∧ r.quota ≤ 90
 wide : 1 ≤ r.wide ∧ r.wide ≤ 5
 noball : 1 ≤ r.noball ∧ r.noball ≤ 5
 newball : 0 ≤ r.newball ∧ r.newball ≤ 200
 followon : 0 ≤ r.followon ∧ r.followon ≤ 1000
 reviews : 0 ≤ r.reviews ∧ r.reviews ≤ 9
 outside : 0 ≤ r.outside ∧ r.outside ≤ 11
theorem N6 {r : Rul} (h : A9 r = 0) : RulOk r := by
 unfold A9 Jp at h
 cases hn : Sd r.name with
 | false => rw [hn] at h; cases h
 | true =>
  cases hr : Lq r.side r.innings r.overs r.balls r.quota r.wide r.noball r.newball r.followon r.reviews r.outside with
  | false => rw [hn, hr] at h; cases h
  | true =>
   unfold Lq at hr
   simp only [Bool.and_eq_true, Tr] at hr
   obtain ⟨⟨⟨⟨⟨⟨⟨⟨⟨⟨h1, h2⟩, h3⟩, h4⟩, h5⟩, h6⟩, h7⟩, h8⟩, h9⟩, h10⟩, h11⟩ := hr
   exact ⟨h1, h2, h3, h4, h5, h6, h7, h8, h9, h10, h11⟩
def B0 (x : Int) : Prop := 0 ≤ x ∧ x ≤ 1000000000
structure InnOk (r : Rul) (s : Inn) : Prop where
 code : A9 r = 0
 side : 1 ≤ s.side ∧ s.side ≤ 2
 lb : (s.batters.length : Int) = r.side
 ld : (s.bowled.length : Int) = r.side
 lz : (s.subs.length : Int) = r.side
 ending : s.ending ≤ 5
 st : 0 ≤ s.striker ∧ s.striker ≤ r.side
 ot : 0 ≤ s.other ∧ s.other ≤ r.side
 bat : V2 s.batters s.striker s.other s.wickets = true
 bow : 0 ≤ s.bowler ∧ s.bowler ≤ r.side
 kee : 0 ≤ s.keeper ∧ s.keeper ≤ r.side
 dw : Iq s.bowlers r.side = true
 df : Iq s.before r.side = true
 ov : W6 r.overs s.overs = true
 io : 0 ≤ s.inover ∧ s.inover ≤ r.balls - 1
 target : B0 s.target
 runs : B0 s.runs
 wides : B0 s.wides
 noballs : B0 s.noballs
 byes : B0 s.byes
 legbyes : B0 s.legbyes
 pens : B0 s.pens
 complete : B0 s.complete
 ballage : B0 s.ballage
 outside : B0 s.outside
 rev1 : B0 s.rev1
 rev2 : B0 s.rev2
 bowled : Ib HU s.bowled = false
theorem fY {x : Int} : HU x = false ↔ B0 x := by
 unfold HU B0
 rw [Bool.not_eq_false', Tr]
theorem eF (a b c d e f g h i j k l : Int) : Ib HU (Zd a b c d e f g h i j k l) = false ↔ B0 a ∧ B0 b ∧ B0 c ∧ B0 d ∧ B0 e ∧ B0 f ∧ B0 g ∧ B0 h ∧ B0 i ∧ B0 j ∧ B0 k ∧ B0 l := by
 rw [L0]
 simp only [Zd, List.any_cons, List.any_nil, Bool.or_false, X5, fH, Bool.or_eq_false_iff, fY]
theorem Wa {r : Rul} (h : RulOk r) : IntKind.i64.wrap (r.balls - 1) = r.balls - 1 := by
 have := h.balls
 exact Ge (by omega) (by omega)
theorem bE {x : Int} : (!iLt 5 x) = true ↔ x ≤ 5 := by
 rw [Bool.not_eq_true']
 simp only [iLt, decide_eq_false_iff_not]
 omega
theorem dE {r : Rul} {s : Inn} : I1 r s = true ↔ InnOk r s := by
 unfold I1 Qq
 simp only [Bool.and_eq_true, Bool.not_eq_true', eF, Tr]
 constructor
 ·intro ⟨h1, h2, h3, h4, h5, h6, h7, h8, h9, h10, h11, h12, h13, h14, h15, ⟨n1, n2, n3, n4, n5, n6, n7, n8, n9, n10, n11, n12⟩, h17⟩
  have hc : A9 r = 0 := beq_iff_eq.1 h1
  exact ⟨hc, h2, beq_iff_eq.1 h3, beq_iff_eq.1 h4, beq_iff_eq.1 h5, bE.1 (by rw [h6]; rfl), h7, h8, h9, h10, h11, h12, h13, h14, by rw [Wa (N6 hc)] at h15; exact h15, n1, n2, n3, n4, n5, n6, n7, n8, n9, n10, n11, n12, h17⟩
 ·intro h
  have h6 := bE.2 h.ending
  rw [Bool.not_eq_true'] at h6
  exact ⟨beq_iff_eq.2 h.code, h.side, beq_iff_eq.2 h.lb, beq_iff_eq.2 h.ld, beq_iff_eq.2 h.lz, h6, h.st, h.ot, h.bat, h.bow, h.kee, h.dw, h.df, h.ov, by rw [Wa (N6 h.code)]; exact h.io,
   ⟨h.target, h.runs, h.wides, h.noballs, h.byes, h.legbyes, h.pens, h.complete, h.ballage, h.outside, h.rev1, h.rev2⟩, h.bowled⟩
end Go.Px
end
section
namespace Go.Px
set_option maxRecDepth 100000
def ew : Inn := ⟨0, 0, 0, 0, 0, 0, 0, 0, 0, 0, 0, 0, 0, 0, [], 0, [], [], false, [], false, 0, 0, 0, [], 0, 0, 0⟩
def gb (n : Nat) (overs side t p : Int) : Inn := ⟨side, t, overs, p, 0, 0, 0, 0, 0, p, 0, 0, 0, 0, List.replicate n [.int 0], 0, [], [], false, List.replicate n [.int 0], false, 0, 0, 0, List.replicate n [.bool false], 0, 0, 0⟩
def DW (r : Rul) (side t p : Int) : Inn × Int :=
 cond (!(A9 r == 0)) (ew, A9 r) (cond (!btw side 1 2 || !btw t 0 1000000 || !btw p 0 1000000) (ew, 2) (gb r.side.toNat r.overs side t p, 0))
theorem Pk {N : Nat} {r1 r2 r3 r4 r5 r6 r7 r9 r10 r11 r12 : Int} {r8 : Bool} {r0 : ByteArray} {r13 : Rows} {a : Int} {b : Int} {c : Int} (hN : 2097152 < N) (hs : r0.size ≤ 1048576) : Em N [.str r0, .int r1, .int r2, .int r3, .int r4, .int r5, .int r6, .int r7, .bool r8, .int r9, .int r10, .int r11, .int r12, .rows r13, .int a, .int b, .int c] = some (Az (DW (⟨r0, r1, r2, r3, r4, r5, r6, r7, r8, r9, r10, r11, r12, r13⟩ : Rul) a b c)) := by
 show HM (std (FJ N) N) (xOf _) = _
 generalize hres : (some (Az (DW (⟨r0, r1, r2, r3, r4, r5, r6, r7, r8, r9, r10, r11, r12, r13⟩ : Rul) a b c)) : Option (List PV)) = RR
 simp only [HM, MI, KA, std, xOf, PXb, CB hN hs, C5]
 subst hres; simp only [DW]
 cases hc : A9 (⟨r0, r1, r2, r3, r4, r5, r6, r7, r8, r9, r10, r11, r12, r13⟩ : Rul) == 0 with
 | false => rfl
 | true =>
  have rk := (N6 (beq_iff_eq.1 hc)).side
  obtain ⟨k, hk⟩ : ∃ k : Nat, r1 = k := ⟨r1.toNat, by simp only at rk; omega⟩
  subst hk
  simp only at rk
  have h1 : iSm (k : Int) 1 = true := Ku (by omega) (by omega)
  have h8 : iSm (k : Int) 8 = true := Ku (by omega) (by omega)
  simp only [PXb, PXc, PXn, PXm, Nat.reduceAdd, Int.reduceBEq, h1, h8]
  cases btw a 1 2 <;> cases btw b 0 1000000 <;> cases btw c 0 1000000 <;> rfl
theorem Hf {N : Nat} {L : Rows} {M : Rows} (hN : 2097152 < N) (hl : L.length ≤ 1048576) : Cx N [.rows L, .rows M] = some [.bool (eqL L M)] := by
 show Ez (std (KV N) N) (xOf _) = _
 simp only [Ez, std, xOf, PXb, PXc, PXn, AE]
 unfold eqL
 cases hm : (L.length : Int) == (M.length : Int) with
 | false => rfl
 | true =>
  simp only [PXb, PXc, PXn, AE]
  refine Ac (FD (len := L.length) (fun i => !(atI L i 0 == atI M i 0)) [.bool false] ?_ ?_ N (by omega)) ?_
  ·intro self
   simp only [PXb, PXc, PXn, AE, BV]
  ·intro i self hi
   simp only [PXb, PXc, PXn, AE, Al (show i ≤ 1099511627776 by omega), BC hi, Ag hi, XU hm hi, CJ]
  ·cases A6 (fun i => !(atI L i 0 == atI M i 0)) L.length 0 <;> rfl
theorem QW {N : Nat} {L : Rows} {M : Rows} (hN : 2097152 < N) (hl : L.length ≤ 1048576) : CM N [.rows L, .rows M] = some [.bool (eqL L M)] := by
 show DE (std (IV N) N) (xOf _) = _
 simp only [DE, std, xOf, PXb, PXc, PXn, AE]
 unfold eqL
 cases hm : (L.length : Int) == (M.length : Int) with
 | false => rfl
 | true =>
  simp only [PXb, PXc, PXn, AE]
  refine Ac (FD (len := L.length) (fun i => !(atI L i 0 == atI M i 0)) [.bool false] ?_ ?_ N (by omega)) ?_
  ·intro self
   simp only [PXb, PXc, PXn, AE, BV]
  ·intro i self hi
   simp only [PXb, PXc, PXn, AE, Al (show i ≤ 1099511627776 by omega), BC hi, Ag hi, XU hm hi, CJ]
  ·cases A6 (fun i => !(atI L i 0 == atI M i 0)) L.length 0 <;> rfl
theorem SP {N : Nat} {L : Rows} {M : Rows} (hN : 2097152 < N) (hl : L.length ≤ 1048576) : Ch N [.rows L, .rows M] = some [.bool (eqB L M)] := by
 show EL (std (Jy N) N) (xOf _) = _
 simp only [EL, std, xOf, PXb, PXc, PXn, AE]
 unfold eqB
 cases hm : (L.length : Int) == (M.length : Int) with
 | false => rfl
 | true =>
  simp only [PXb, PXc, PXn, AE]
  refine Ac (FD (len := L.length) (fun i => !(atB L i 0 == atB M i 0)) [.bool false] ?_ ?_ N (by omega)) ?_
  ·intro self
   simp only [PXb, PXc, PXn, AE, BV]
  ·intro i self hi
   simp only [PXb, PXc, PXn, AE, Al (show i ≤ 1099511627776 by omega), BC hi, Ag hi, XU hm hi, XN]
  ·cases A6 (fun i => !(atB L i 0 == atB M i 0)) L.length 0 <;> rfl
theorem Vb {N : Nat} {s0 s1 s2 s3 s4 s5 s6 s7 s8 s9 s10 s11 s12 s13 s15 s21 s22 s23 s25 s26 s27 : Int} {s18 s20 : Bool} {s14 s16 s17 s19 s24 : Rows}  : D7 N [.int s0, .int s1, .int s2, .int s3, .int s4, .int s5, .int s6, .int s7, .int s8, .int s9, .int s10, .int s11, .int s12, .int s13, .rows s14, .int s15, .rows s16, .rows s17, .bool s18, .rows s19, .bool s20, .int s21, .int s22, .int s23, .rows s24, .int s25, .int s26, .int s27] = some [.int s0, .int s1, .int s2, .int s3, .int s4, .int s10, .int s11, .int s12, .int s13, .int s15, .int s21, .int s22, .int s23, .int s25, .int s26] := by
 show GC (std (Mf N) N) (xOf _) = _
 simp only [GC, std, xOf, PXb, PXc, PXn, PXm, Nat.reduceAdd, Int.reduceBEq]
theorem XH {N : Nat} {s0 s1 s2 s3 s4 s5 s6 s7 s8 s9 s10 s11 s12 s13 s15 s21 s22 s23 s25 s26 s27 : Int} {s18 s20 : Bool} {s14 s16 s17 s19 s24 : Rows} {t0 t1 t2 t3 t4 t5 t6 t7 t8 t9 t10 t11 t12 t13 t15 t21 t22 t23 t25 t26 t27 : Int} {t18 t20 : Bool} {t14 t16 t17 t19 t24 : Rows} (h : Fit s14 s16 s17 s19 s24) (hN : 2097152 < N) : IL N [.int s0, .int s1, .int s2, .int s3, .int s4, .int s5, .int s6, .int s7, .int s8, .int s9, .int s10, .int s11, .int s12, .int s13, .rows s14, .int s15, .rows s16, .rows s17, .bool s18, .rows s19, .bool s20, .int s21, .int s22, .int s23, .rows s24, .int s25, .int s26, .int s27, .int t0, .int t1, .int t2, .int t3, .int t4, .int t5, .int t6, .int t7, .int t8, .int t9, .int t10, .int t11, .int t12, .int t13, .rows t14, .int t15, .rows t16, .rows t17, .bool t18, .rows t19, .bool t20, .int t21, .int t22, .int t23, .rows t24, .int t25, .int t26, .int t27] = some [.bool (WO (⟨s0, s1, s2, s3, s4, s5, s6, s7, s8, s9, s10, s11, s12, s13, s14, s15, s16, s17, s18, s19, s20, s21, s22, s23, s24, s25, s26, s27⟩ : Inn) (⟨t0, t1, t2, t3, t4, t5, t6, t7, t8, t9, t10, t11, t12, t13, t14, t15, t16, t17, t18, t19, t20, t21, t22, t23, t24, t25, t26, t27⟩ : Inn))] := by
 show H3 (std (Cq N) N) (xOf _) = _
 generalize hres : (some [.bool (WO (⟨s0, s1, s2, s3, s4, s5, s6, s7, s8, s9, s10, s11, s12, s13, s14, s15, s16, s17, s18, s19, s20, s21, s22, s23, s24, s25, s26, s27⟩ : Inn) (⟨t0, t1, t2, t3, t4, t5, t6, t7, t8, t9, t10, t11, t12, t13, t14, t15, t16, t17, t18, t19, t20, t21, t22, t23, t24, t25, t26, t27⟩ : Inn))] : Option (List PV)) = RR
 simp only [H3, Ig, J7, JZ, LB, std, xOf, PXb, PXc, PXn, PXm, Nat.reduceAdd, Int.reduceBEq, QW hN h.bt, Hf hN h.bw', Hf hN h.bf, Hf hN h.bd, SP hN h.sb, Vb]
 subst hres; simp only [WO, eqN]
 refine congrArg (fun z => some [PV.bool z]) ?_
 simp only [Bool.and_assoc, Bool.and_comm, Bool.and_left_comm]
theorem N1 (r : Rul) (side t p : Int) : (DW r side t p).1.Fit ∧ (DW r side t p).1.before = [] ∧ (DW r side t p).1.bowlers = [] := by
 unfold DW
 cases hc : A9 r == 0 with
 | false => exact ⟨⟨by show 0 ≤ 1048576; omega, by show 0 ≤ 1048576; omega, by show 0 ≤ 1048576; omega, by show 0 ≤ 1048576; omega, by show 0 ≤ 1048576; omega⟩, rfl, rfl⟩
 | true =>
  have hs := (N6 (beq_iff_eq.1 hc)).side
  have hl : ∀ x : List PV, (List.replicate r.side.toNat x).length ≤ 1048576 := fun x => by rw [List.length_replicate]; omega
  cases (!btw side 1 2 || !btw t 0 1000000 || !btw p 0 1000000) with
  | true => exact ⟨⟨by show 0 ≤ 1048576; omega, by show 0 ≤ 1048576; omega, by show 0 ≤ 1048576; omega, by show 0 ≤ 1048576; omega, by show 0 ≤ 1048576; omega⟩, rfl, rfl⟩
  | false => exact ⟨⟨hl _, by show 0 ≤ 1048576; omega, by show 0 ≤ 1048576; omega, hl _, hl _⟩, rfl, rfl⟩
theorem fj {s : Inn} (h : s.Fit) : (Sw s).Fit := ⟨h.bt, h.bw, h.bf, h.bd, h.sb⟩
end Go.Px
end
section
namespace Go.Px
set_option maxRecDepth 100000
structure BatOk (L : Rows) (s n wk : Int) : Prop where
 le : ∀ i, i < L.length → atI L i 0 ≤ 3
 at1 : ∀ i, i < L.length → (atI L i 0 = 1 ↔ (s = (i : Int) + 1 ∨ n = (i : Int) + 1))
 here : Du L = true → s ≠ 0 ∨ n ≠ 0
 ne : s ≠ 0 → s ≠ n
 wk : wk = XZ L
end Go.Px
end
section
namespace Go.Px
set_option maxRecDepth 100000
theorem fG {r : Rul} {s : Inn} (h : InnOk r s) : 2 ≤ r.side ∧ r.side ≤ 11 := (N6 h.code).side
end Go.Px
end
section
namespace Go.Px
set_option maxRecDepth 100000
structure Small (s : Inn) : Prop where
 target : s.target ≤ 999999900
 runs : s.runs ≤ 999999900
 wides : s.wides ≤ 999999900
 noballs : s.noballs ≤ 999999900
 byes : s.byes ≤ 999999900
 legbyes : s.legbyes ≤ 999999900
 pens : s.pens ≤ 999999900
 complete : s.complete ≤ 999999900
 ballage : s.ballage ≤ 999999900
 rev1 : s.rev1 ≤ 999999900
 rev2 : s.rev2 ≤ 999999900
 bowled : ∀ j, j < s.bowled.length → atI s.bowled j 0 ≤ 999999900
end Go.Px
end
