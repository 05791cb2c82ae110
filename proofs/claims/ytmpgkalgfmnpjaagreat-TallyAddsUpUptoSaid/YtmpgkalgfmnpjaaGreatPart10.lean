/- Part 10. -/
import Derived.Test.YtmpgkalgfmnpjaaGreatPart09
set_option linter.unusedVariables false
set_option linter.unusedSimpArgs false
section
namespace Go.Px
set_option maxRecDepth 100000
structure Lens (s t : Inn) : Prop where
 bt : t.batters.length = s.batters.length
 bd : t.bowled.length = s.bowled.length
 sb : t.subs.length = s.subs.length
 bw : t.bowlers.length ≤ s.bowlers.length + 1
 bf : t.before.length ≤ s.before.length + s.bowlers.length + 1
theorem Lens.refl (s : Inn) : Lens s s := ⟨rfl, rfl, rfl, by omega, by omega⟩
theorem P_c {α : Type} {P : α → Prop} (b : Bool) (x y : α) (hx : P x) (hy : P y) : P (cond b x y) := by cases b <;> assumption
theorem bT (s : Inn) (d : Del) : Lens s (Ad s d) := by
 have hb : ∀ (b : Bool), (cond b (MK s.batters s.striker 2) s.batters).length = s.batters.length := fun b => by cases b <;> simp [KY]
 have hc : ∀ (b : Bool), (cond b (MK s.batters s.other 2) s.batters).length = s.batters.length := fun b => by cases b <;> simp [KY]
 unfold Ad
 cases (!(d.runs.tmod 2 == 0) != d.crossed) <;> refine P_c _ _ _ ⟨hb _, rfl, rfl, ?_, ?_⟩ (P_c _ _ _ ⟨hc _, rfl, rfl, ?_, ?_⟩ ⟨rfl, rfl, rfl, ?_, ?_⟩) <;> simp <;> omega
theorem ZR (r : Rul) (s : Inn) (c : Bool) : Lens s (Aj r s c).1 := by
 have hl : (cond (JE s.bowlers s.bowlers.length s.bowler) s.bowlers (s.bowlers ++ [[.int s.bowler]])).length ≤ s.bowlers.length + 1 := by
  cases JE s.bowlers s.bowlers.length s.bowler <;> simp
 have hd : (cond c (MK s.bowled s.bowler (inc (atI s.bowled (ix s.bowler) 0))) s.bowled).length = s.bowled.length := by cases c <;> simp [KY]
 unfold Aj
 refine P_c (P := fun x : Inn × Bool => Lens s x.1) _ _ _ (Lens.refl s) (P_c (P := fun x : Inn × Bool => Lens s x.1) _ _ _ ⟨rfl, hd, rfl, hl, by simp; omega⟩ ⟨rfl, hd, rfl, by simp, ?_⟩)
 simp only
 omega
def XQ (a b c d : Int) : Int := cond (!(a == 0)) a (cond (!(b == 0)) b (cond (!(c == 0)) c (cond (!(d == 0)) d 0)))
def HX (r : Rul) (s : Inn) (d : Del) : Int :=
 cond (GE s.batters s.striker s.other) 6 (cond (s.bowler == 0) 7 (XQ (Ps r s) (E6 d) (OZ d s.freehit) (Pf s d)))
theorem VM {N : Nat} {r1 r2 r3 r4 r5 r6 r7 r9 r10 r11 r12 : Int} {r8 : Bool} {r0 : ByteArray} {r13 : Rows} {s0 s1 s2 s3 s4 s5 s6 s7 s8 s9 s10 s11 s12 s13 s15 s21 s22 s23 s25 s26 s27 : Int} {s18 s20 : Bool} {s14 s16 s17 s19 s24 : Rows} {d0 d1 d2 d3 d4 d6 d7 d8 d9 d11 : Int} {d5 d10 : Bool} (h : Fit s14 s16 s17 s19 s24) (hN : 2097152 < N) (h13 : r13.length ≤ 1048576) : Dm N [.str r0, .int r1, .int r2, .int r3, .int r4, .int r5, .int r6, .int r7, .bool r8, .int r9, .int r10, .int r11, .int r12, .rows r13, .int s0, .int s1, .int s2, .int s3, .int s4, .int s5, .int s6, .int s7, .int s8, .int s9, .int s10, .int s11, .int s12, .int s13, .rows s14, .int s15, .rows s16, .rows s17, .bool s18, .rows s19, .bool s20, .int s21, .int s22, .int s23, .rows s24, .int s25, .int s26, .int s27, .int d0, .int d1, .int d2, .int d3, .int d4, .bool d5, .int d6, .int d7, .int d8, .int d9, .bool d10, .int d11] = some [.int (HX (⟨r0, r1, r2, r3, r4, r5, r6, r7, r8, r9, r10, r11, r12, r13⟩ : Rul) (⟨s0, s1, s2, s3, s4, s5, s6, s7, s8, s9, s10, s11, s12, s13, s14, s15, s16, s17, s18, s19, s20, s21, s22, s23, s24, s25, s26, s27⟩ : Inn) (⟨d0, d1, d2, d3, d4, d5, d6, d7, d8, d9, d10, d11⟩ : Del))] := by
 show Ft (std (Bv N) N) (xOf _) = _
 generalize hres : (some [.int (HX (⟨r0, r1, r2, r3, r4, r5, r6, r7, r8, r9, r10, r11, r12, r13⟩ : Rul) (⟨s0, s1, s2, s3, s4, s5, s6, s7, s8, s9, s10, s11, s12, s13, s14, s15, s16, s17, s18, s19, s20, s21, s22, s23, s24, s25, s26, s27⟩ : Inn) (⟨d0, d1, d2, d3, d4, d5, d6, d7, d8, d9, d10, d11⟩ : Del))] : Option (List PV)) = RR
 simp only [Ft, KQ, Kr, L7, IV, L5, std, xOf, PXb, Ql h.bt hN, Zx h hN h13, PC, Sc hN, Zh h]
 subst hres; simp only [HX]
 cases GE s14 s12 s13 <;> try rfl
 cases s15 == 0 <;> try rfl
 simp only [PXb]
 generalize Ps (⟨r0, r1, r2, r3, r4, r5, r6, r7, r8, r9, r10, r11, r12, r13⟩ : Rul) (⟨s0, s1, s2, s3, s4, s5, s6, s7, s8, s9, s10, s11, s12, s13, s14, s15, s16, s17, s18, s19, s20, s21, s22, s23, s24, s25, s26, s27⟩ : Inn) = a
 generalize E6 (⟨d0, d1, d2, d3, d4, d5, d6, d7, d8, d9, d10, d11⟩ : Del) = b
 generalize OZ (⟨d0, d1, d2, d3, d4, d5, d6, d7, d8, d9, d10, d11⟩ : Del) s20 = c
 generalize Pf (⟨s0, s1, s2, s3, s4, s5, s6, s7, s8, s9, s10, s11, s12, s13, s14, s15, s16, s17, s18, s19, s20, s21, s22, s23, s24, s25, s26, s27⟩ : Inn) (⟨d0, d1, d2, d3, d4, d5, d6, d7, d8, d9, d10, d11⟩ : Del) = e
 refine AY (CE (len := 4) (fun i => cond (!(atI [[.int a], [.int b], [.int c], [.int e]] i 0 == 0)) (some [.int (atI [[.int a], [.int b], [.int c], [.int e]] i 0)]) none) ?_ ?_ 4 0 N (by omega) (by omega)) ?_
 ·intro self
  rfl
 ·intro i self hi
  simp only [PXb, Ar (show i ≤ 1099511627776 by omega), List.length_cons, List.length_nil, Nat.reduceAdd, A1 hi, Ac hi, B8]
  cases atI [[.int a], [.int b], [.int c], [.int e]] i 0 == 0 <;> rfl
 ·refine (Xt _).trans (congrArg (fun z => some [PV.int z]) ?_)
  unfold XQ
  simp only [A8]
  rw [show atI [[.int a], [.int b], [.int c], [.int e]] 0 0 = a from rfl, show atI [[.int a], [.int b], [.int c], [.int e]] (0 + 1) 0 = b from rfl, show atI [[.int a], [.int b], [.int c], [.int e]] (0 + 1 + 1) 0 = c from rfl, show atI [[.int a], [.int b], [.int c], [.int e]] (0 + 1 + 1 + 1) 0 = e from rfl]
  cases a == 0 <;> try rfl
  cases b == 0 <;> try rfl
  cases c == 0 <;> try rfl
  cases e == 0 <;> rfl
theorem PR {s t : Inn} (l : Lens s t) (h : s.Fit) (hw : s.before.length + s.bowlers.length ≤ 1048575) : t.Fit := ⟨l.bt ▸ h.bt, by have := l.bw; omega, by have := l.bf; omega, l.bd ▸ h.bd, l.sb ▸ h.sb⟩
theorem gu (s : Inn) (d : Del) : (Ad s d).bowlers = s.bowlers := by
 unfold Ad
 cases (!(d.runs.tmod 2 == 0) != d.crossed) <;> exact P_c (P := fun x : Inn => x.bowlers = s.bowlers) _ _ _ rfl (P_c (P := fun x : Inn => x.bowlers = s.bowlers) _ _ _ rfl rfl)
theorem gz (s : Inn) (d : Del) : (Ad s d).before = s.before := by
 unfold Ad
 cases (!(d.runs.tmod 2 == 0) != d.crossed) <;> exact P_c (P := fun x : Inn => x.before = s.before) _ _ _ rfl (P_c (P := fun x : Inn => x.before = s.before) _ _ _ rfl rfl)
@[reducible] def UH (t : Inn) (a b e f g : Int) : Inn := ⟨t.side, t.target, t.overs, a, t.wickets, b, e, f, g, t.pens, t.complete, t.inover, t.striker, t.other, t.batters, t.bowler, t.bowlers, t.before, t.fresh, t.bowled, t.freehit, t.ballage, t.keeper, t.outside, t.subs, t.rev1, t.rev2, t.ending⟩
def Lb (r : Rul) (s : Inn) (d : Del) : Inn × Int :=
  cond (!(HX r s d == 0)) (s, HX r s d)
    (let c := AB r d
     let t := Ad s d
     let o := Aj r (UH t (IntKind.i64.wrap (t.runs + C8 c)) (IntKind.i64.wrap (t.wides + c.wides)) (IntKind.i64.wrap (t.noballs + c.noballs)) (IntKind.i64.wrap (t.byes + c.byes)) (IntKind.i64.wrap (t.legbyes + c.legbyes))) c.counts
     let t : Inn := cond o.2 (HU o.1) o.1
     ({ t with freehit := cond (d.type == 1) false (cond (d.type == 3 && r.freehit) true o.1.freehit) }, 0))
theorem YL {N : Nat} {r1 r2 r3 r4 r5 r6 r7 r9 r10 r11 r12 : Int} {r8 : Bool} {r0 : ByteArray} {r13 : Rows} {s0 s1 s2 s3 s4 s5 s6 s7 s8 s9 s10 s11 s12 s13 s15 s21 s22 s23 s25 s26 s27 : Int} {s18 s20 : Bool} {s14 s16 s17 s19 s24 : Rows} {d0 d1 d2 d3 d4 d6 d7 d8 d9 d11 : Int} {d5 d10 : Bool} (h : Fit s14 s16 s17 s19 s24) (hw : s17.length + s16.length ≤ 1000000) (hN : 2097152 < N) (hs : r0.size ≤ 1048576) (h13 : r13.length ≤ 1048576) : GL N [.str r0, .int r1, .int r2, .int r3, .int r4, .int r5, .int r6, .int r7, .bool r8, .int r9, .int r10, .int r11, .int r12, .rows r13, .int s0, .int s1, .int s2, .int s3, .int s4, .int s5, .int s6, .int s7, .int s8, .int s9, .int s10, .int s11, .int s12, .int s13, .rows s14, .int s15, .rows s16, .rows s17, .bool s18, .rows s19, .bool s20, .int s21, .int s22, .int s23, .rows s24, .int s25, .int s26, .int s27, .int d0, .int d1, .int d2, .int d3, .int d4, .bool d5, .int d6, .int d7, .int d8, .int d9, .bool d10, .int d11] = some (BG (Lb (⟨r0, r1, r2, r3, r4, r5, r6, r7, r8, r9, r10, r11, r12, r13⟩ : Rul) (⟨s0, s1, s2, s3, s4, s5, s6, s7, s8, s9, s10, s11, s12, s13, s14, s15, s16, s17, s18, s19, s20, s21, s22, s23, s24, s25, s26, s27⟩ : Inn) (⟨d0, d1, d2, d3, d4, d5, d6, d7, d8, d9, d10, d11⟩ : Del))) := by
 show Is (std (Bj N) N) (xOf _) = _
 generalize hres : (some (BG (Lb (⟨r0, r1, r2, r3, r4, r5, r6, r7, r8, r9, r10, r11, r12, r13⟩ : Rul) (⟨s0, s1, s2, s3, s4, s5, s6, s7, s8, s9, s10, s11, s12, s13, s14, s15, s16, s17, s18, s19, s20, s21, s22, s23, s24, s25, s26, s27⟩ : Inn) (⟨d0, d1, d2, d3, d4, d5, d6, d7, d8, d9, d10, d11⟩ : Del))) : Option (List PV)) = RR
 have l1 := bT (⟨s0, s1, s2, s3, s4, s5, s6, s7, s8, s9, s10, s11, s12, s13, s14, s15, s16, s17, s18, s19, s20, s21, s22, s23, s24, s25, s26, s27⟩ : Inn) (⟨d0, d1, d2, d3, d4, d5, d6, d7, d8, d9, d10, d11⟩ : Del)
 have f1 := PR l1 h (by simp only; omega)
 have w1 : (Ad (⟨s0, s1, s2, s3, s4, s5, s6, s7, s8, s9, s10, s11, s12, s13, s14, s15, s16, s17, s18, s19, s20, s21, s22, s23, s24, s25, s26, s27⟩ : Inn) (⟨d0, d1, d2, d3, d4, d5, d6, d7, d8, d9, d10, d11⟩ : Del)).bowlers.length = s16.length := congrArg List.length (gu _ _)
 have w2 : (Ad (⟨s0, s1, s2, s3, s4, s5, s6, s7, s8, s9, s10, s11, s12, s13, s14, s15, s16, s17, s18, s19, s20, s21, s22, s23, s24, s25, s26, s27⟩ : Inn) (⟨d0, d1, d2, d3, d4, d5, d6, d7, d8, d9, d10, d11⟩ : Del)).before.length = s17.length := congrArg List.length (gz _ _)
 have l2 := fun (x : Rul) (c : Bool) (a b e f g : Int) => ZR x (UH (Ad (⟨s0, s1, s2, s3, s4, s5, s6, s7, s8, s9, s10, s11, s12, s13, s14, s15, s16, s17, s18, s19, s20, s21, s22, s23, s24, s25, s26, s27⟩ : Inn) (⟨d0, d1, d2, d3, d4, d5, d6, d7, d8, d9, d10, d11⟩ : Del)) a b e f g) c
 have f2 := fun (x : Rul) (c : Bool) (a b e f g : Int) => PR (l2 x c a b e f g) f1 (show (Ad (⟨s0, s1, s2, s3, s4, s5, s6, s7, s8, s9, s10, s11, s12, s13, s14, s15, s16, s17, s18, s19, s20, s21, s22, s23, s24, s25, s26, s27⟩ : Inn) (⟨d0, d1, d2, d3, d4, d5, d6, d7, d8, d9, d10, d11⟩ : Del)).before.length + (Ad (⟨s0, s1, s2, s3, s4, s5, s6, s7, s8, s9, s10, s11, s12, s13, s14, s15, s16, s17, s18, s19, s20, s21, s22, s23, s24, s25, s26, s27⟩ : Inn) (⟨d0, d1, d2, d3, d4, d5, d6, d7, d8, d9, d10, d11⟩ : Del)).bowlers.length ≤ 1048575 by omega)
 simp only [Is, LL, L0, Mj, K6, Ou, OY, MJ, std, xOf, PXb, PXc, PXn, PXm, Nat.reduceAdd, Int.reduceBEq, VM h hN h13, Bw h, Fv, aK h, P2, Cre.ls, bH f1 (show (Ad (⟨s0, s1, s2, s3, s4, s5, s6, s7, s8, s9, s10, s11, s12, s13, s14, s15, s16, s17, s18, s19, s20, s21, s22, s23, s24, s25, s26, s27⟩ : Inn) (⟨d0, d1, d2, d3, d4, d5, d6, d7, d8, d9, d10, d11⟩ : Del)).bowlers.length ≤ 1048575 by omega) hN hs, iQ, X9 (f2 _ _ _ _ _ _ _)]
 subst hres; simp only [Lb, UH]
 cases HX (⟨r0, r1, r2, r3, r4, r5, r6, r7, r8, r9, r10, r11, r12, r13⟩ : Rul) (⟨s0, s1, s2, s3, s4, s5, s6, s7, s8, s9, s10, s11, s12, s13, s14, s15, s16, s17, s18, s19, s20, s21, s22, s23, s24, s25, s26, s27⟩ : Inn) (⟨d0, d1, d2, d3, d4, d5, d6, d7, d8, d9, d10, d11⟩ : Del) == 0 with
 | false => rfl
 | true =>
  obtain ⟨o, ho⟩ : ∃ o, o = Aj (⟨r0, r1, r2, r3, r4, r5, r6, r7, r8, r9, r10, r11, r12, r13⟩ : Rul) (UH (Ad (⟨s0, s1, s2, s3, s4, s5, s6, s7, s8, s9, s10, s11, s12, s13, s14, s15, s16, s17, s18, s19, s20, s21, s22, s23, s24, s25, s26, s27⟩ : Inn) (⟨d0, d1, d2, d3, d4, d5, d6, d7, d8, d9, d10, d11⟩ : Del)) (IntKind.i64.wrap ((Ad (⟨s0, s1, s2, s3, s4, s5, s6, s7, s8, s9, s10, s11, s12, s13, s14, s15, s16, s17, s18, s19, s20, s21, s22, s23, s24, s25, s26, s27⟩ : Inn) (⟨d0, d1, d2, d3, d4, d5, d6, d7, d8, d9, d10, d11⟩ : Del)).runs + C8 (AB (⟨r0, r1, r2, r3, r4, r5, r6, r7, r8, r9, r10, r11, r12, r13⟩ : Rul) (⟨d0, d1, d2, d3, d4, d5, d6, d7, d8, d9, d10, d11⟩ : Del)))) (IntKind.i64.wrap ((Ad (⟨s0, s1, s2, s3, s4, s5, s6, s7, s8, s9, s10, s11, s12, s13, s14, s15, s16, s17, s18, s19, s20, s21, s22, s23, s24, s25, s26, s27⟩ : Inn) (⟨d0, d1, d2, d3, d4, d5, d6, d7, d8, d9, d10, d11⟩ : Del)).wides + (AB (⟨r0, r1, r2, r3, r4, r5, r6, r7, r8, r9, r10, r11, r12, r13⟩ : Rul) (⟨d0, d1, d2, d3, d4, d5, d6, d7, d8, d9, d10, d11⟩ : Del)).wides)) (IntKind.i64.wrap ((Ad (⟨s0, s1, s2, s3, s4, s5, s6, s7, s8, s9, s10, s11, s12, s13, s14, s15, s16, s17, s18, s19, s20, s21, s22, s23, s24, s25, s26, s27⟩ : Inn) (⟨d0, d1, d2, d3, d4, d5, d6, d7, d8, d9, d10, d11⟩ : Del)).noballs + (AB (⟨r0, r1, r2, r3, r4, r5, r6, r7, r8, r9, r10, r11, r12, r13⟩ : Rul) (⟨d0, d1, d2, d3, d4, d5, d6, d7, d8, d9, d10, d11⟩ : Del)).noballs)) (IntKind.i64.wrap ((Ad (⟨s0, s1, s2, s3, s4, s5, s6, s7, s8, s9, s10, s11, s12, s13, s14, s15, s16, s17, s18, s19, s20, s21, s22, s23, s24, s25, s26, s27⟩ : Inn) (⟨d0, d1, d2, d3, d4, d5, d6, d7, d8, d9, d10, d11⟩ : Del)).byes + (AB (⟨r0, r1, r2, r3, r4, r5, r6, r7, r8, r9, r10, r11, r12, r13⟩ : Rul) (⟨d0, d1, d2, d3, d4, d5, d6, d7, d8, d9, d10, d11⟩ : Del)).byes)) (IntKind.i64.wrap ((Ad (⟨s0, s1, s2, s3, s4, s5, s6, s7, s8, s9, s10, s11, s12, s13, s14, s15, s16, s17, s18, s19, s20, s21, s22, s23, s24, s25, s26, s27⟩ : Inn) (⟨d0, d1, d2, d3, d4, d5, d6, d7, d8, d9, d10, d11⟩ : Del)).legbyes + (AB (⟨r0, r1, r2, r3, r4, r5, r6, r7, r8, r9, r10, r11, r12, r13⟩ : Rul) (⟨d0, d1, d2, d3, d4, d5, d6, d7, d8, d9, d10, d11⟩ : Del)).legbyes))) (AB (⟨r0, r1, r2, r3, r4, r5, r6, r7, r8, r9, r10, r11, r12, r13⟩ : Rul) (⟨d0, d1, d2, d3, d4, d5, d6, d7, d8, d9, d10, d11⟩ : Del)).counts := ⟨_, rfl⟩
  simp only [UH, C8] at ho ⊢
  simp only [← ho]
  obtain ⟨o1, o2⟩ := o
  cases o2 <;> cases d0 == 1 <;> cases d0 == 3 <;> cases r8 <;> rfl
theorem bc (r : Rul) (s : Inn) (b : Bool) (a c d e f : Int) : Aj r (UH s a c d e f) b = (UH (Aj r s b).1 a c d e f, (Aj r s b).2) := by
 unfold Aj UH
 simp only
 cases (!inR s.bowler s.bowled.length || !(BA r == 0)) with
 | true => rfl
 | false =>
  simp only [cond_false]
  cases iLt (cond b (inc s.inover) s.inover) r.balls <;> rfl
def KJ (r : Rul) (s : Inn) (side : Int) : Inn × Int := cond (!(side == s.side)) (s, 2) (cond (!(r.overs == 0)) (s, 20) ({ s with ending := 4 }, 0))
theorem VU {N : Nat} {r1 r2 r3 r4 r5 r6 r7 r9 r10 r11 r12 : Int} {r8 : Bool} {r0 : ByteArray} {r13 : Rows} {s0 s1 s2 s3 s4 s5 s6 s7 s8 s9 s10 s11 s12 s13 s15 s21 s22 s23 s25 s26 s27 : Int} {s18 s20 : Bool} {s14 s16 s17 s19 s24 : Rows} {e0 e1 e2 e3 e5 e6 e7 e8 e9 e10 e11 e13 e14 e15 e16 e18 : Int} {e4 e12 e17 : Bool} (h : Fit s14 s16 s17 s19 s24) : Dt N [.str r0, .int r1, .int r2, .int r3, .int r4, .int r5, .int r6, .int r7, .bool r8, .int r9, .int r10, .int r11, .int r12, .rows r13, .int s0, .int s1, .int s2, .int s3, .int s4, .int s5, .int s6, .int s7, .int s8, .int s9, .int s10, .int s11, .int s12, .int s13, .rows s14, .int s15, .rows s16, .rows s17, .bool s18, .rows s19, .bool s20, .int s21, .int s22, .int s23, .rows s24, .int s25, .int s26, .int s27, .int e0, .int e1, .int e2, .int e3, .bool e4, .int e5, .int e6, .int e7, .int e8, .int e9, .int e10, .int e11, .bool e12, .int e13, .int e14, .int e15, .int e16, .bool e17, .int e18] = some (BG (KJ (⟨r0, r1, r2, r3, r4, r5, r6, r7, r8, r9, r10, r11, r12, r13⟩ : Rul) (⟨s0, s1, s2, s3, s4, s5, s6, s7, s8, s9, s10, s11, s12, s13, s14, s15, s16, s17, s18, s19, s20, s21, s22, s23, s24, s25, s26, s27⟩ : Inn) e1)) := by
 show Fn (std (He N) N) (xOf _) = _
 generalize hres : (some (BG (KJ (⟨r0, r1, r2, r3, r4, r5, r6, r7, r8, r9, r10, r11, r12, r13⟩ : Rul) (⟨s0, s1, s2, s3, s4, s5, s6, s7, s8, s9, s10, s11, s12, s13, s14, s15, s16, s17, s18, s19, s20, s21, s22, s23, s24, s25, s26, s27⟩ : Inn) e1)) : Option (List PV)) = RR
 simp only [Fn, Kx, std, xOf, PXb, PXc, PXn, PXm, Nat.reduceAdd, Int.reduceBEq, Bw h]
 subst hres; simp only [KJ]
 cases e1 == s0 <;> cases r3 == 0 <;> rfl
def N0 (s : Inn) : Inn := { s with runs := IntKind.i64.wrap (s.runs + 5), pens := IntKind.i64.wrap (s.pens + 5) }
theorem OP {N : Nat} {s0 s1 s2 s3 s4 s5 s6 s7 s8 s9 s10 s11 s12 s13 s15 s21 s22 s23 s25 s26 s27 : Int} {s18 s20 : Bool} {s14 s16 s17 s19 s24 : Rows} (h : Fit s14 s16 s17 s19 s24) : Bt N [.int s0, .int s1, .int s2, .int s3, .int s4, .int s5, .int s6, .int s7, .int s8, .int s9, .int s10, .int s11, .int s12, .int s13, .rows s14, .int s15, .rows s16, .rows s17, .bool s18, .rows s19, .bool s20, .int s21, .int s22, .int s23, .rows s24, .int s25, .int s26, .int s27] = some (N0 (⟨s0, s1, s2, s3, s4, s5, s6, s7, s8, s9, s10, s11, s12, s13, s14, s15, s16, s17, s18, s19, s20, s21, s22, s23, s24, s25, s26, s27⟩ : Inn)).ls := by
 show Fu (std (Hf N) N) (xOf _) = _
 generalize hres : (some (N0 (⟨s0, s1, s2, s3, s4, s5, s6, s7, s8, s9, s10, s11, s12, s13, s14, s15, s16, s17, s18, s19, s20, s21, s22, s23, s24, s25, s26, s27⟩ : Inn)).ls : Option (List PV)) = RR
 simp only [Fu, Kp, std, xOf, PXb, PXc, PXn, PXm, Nat.reduceAdd, Int.reduceBEq, Bw h]
 subst hres; simp only [N0]
 rfl
def Gi (s : Inn) (side runs : Int) : Inn × Int :=
 cond (!(runs == 5)) (s, 23) (cond (side == s.side) (N0 s, 0) ({ s with target := cond (iLt 0 s.target) (IntKind.i64.wrap (s.target + 5)) s.target }, 0))
theorem VN {N : Nat} {s0 s1 s2 s3 s4 s5 s6 s7 s8 s9 s10 s11 s12 s13 s15 s21 s22 s23 s25 s26 s27 : Int} {s18 s20 : Bool} {s14 s16 s17 s19 s24 : Rows} {e0 e1 e2 e3 e5 e6 e7 e8 e9 e10 e11 e13 e14 e15 e16 e18 : Int} {e4 e12 e17 : Bool} (h : Fit s14 s16 s17 s19 s24) : Dq N [.int s0, .int s1, .int s2, .int s3, .int s4, .int s5, .int s6, .int s7, .int s8, .int s9, .int s10, .int s11, .int s12, .int s13, .rows s14, .int s15, .rows s16, .rows s17, .bool s18, .rows s19, .bool s20, .int s21, .int s22, .int s23, .rows s24, .int s25, .int s26, .int s27, .int e0, .int e1, .int e2, .int e3, .bool e4, .int e5, .int e6, .int e7, .int e8, .int e9, .int e10, .int e11, .bool e12, .int e13, .int e14, .int e15, .int e16, .bool e17, .int e18] = some (BG (Gi (⟨s0, s1, s2, s3, s4, s5, s6, s7, s8, s9, s10, s11, s12, s13, s14, s15, s16, s17, s18, s19, s20, s21, s22, s23, s24, s25, s26, s27⟩ : Inn) e1 e5)) := by
 show Fr (std (Eg N) N) (xOf _) = _
 generalize hres : (some (BG (Gi (⟨s0, s1, s2, s3, s4, s5, s6, s7, s8, s9, s10, s11, s12, s13, s14, s15, s16, s17, s18, s19, s20, s21, s22, s23, s24, s25, s26, s27⟩ : Inn) e1 e5)) : Option (List PV)) = RR
 simp only [Fr, Kv, JM, std, xOf, PXb, PXc, PXn, PXm, Nat.reduceAdd, Int.reduceBEq, Bw h, OP h]
 subst hres; simp only [Gi]
 cases e5 == 5 <;> cases e1 == s0 <;> cases iLt 0 s1 <;> rfl
def Kj (r : Rul) (s : Inn) (side : Int) (yes : Bool) : Inn × Int :=
 cond (!s.fresh || iLe r.reviews (cond (side == 2) s.rev2 s.rev1)) (s, 24) (cond (!yes) ({ s with rev1 := cond (side == 1) (inc s.rev1) s.rev1, rev2 := cond (side == 2) (inc s.rev2) s.rev2 }, 0) (s, 0))
theorem wr1 : IntKind.i64.wrap (1 - 1) = 0 := rfl
theorem wr2 : IntKind.i64.wrap (2 - 1) = 1 := rfl
theorem aP : iIn 0 2 = true := rfl
theorem cM : iIn 1 2 = true := rfl
theorem WE {N : Nat} {r1 r2 r3 r4 r5 r6 r7 r9 r10 r11 r12 : Int} {r8 : Bool} {r0 : ByteArray} {r13 : Rows} {s0 s1 s2 s3 s4 s5 s6 s7 s8 s9 s10 s11 s12 s13 s15 s21 s22 s23 s25 s26 s27 : Int} {s18 s20 : Bool} {s14 s16 s17 s19 s24 : Rows} {e0 e1 e2 e3 e5 e6 e7 e8 e9 e10 e11 e13 e14 e15 e16 e18 : Int} {e4 e12 e17 : Bool} (h : Fit s14 s16 s17 s19 s24) (he : e1 = 1 ∨ e1 = 2) : EI N [.str r0, .int r1, .int r2, .int r3, .int r4, .int r5, .int r6, .int r7, .bool r8, .int r9, .int r10, .int r11, .int r12, .rows r13, .int s0, .int s1, .int s2, .int s3, .int s4, .int s5, .int s6, .int s7, .int s8, .int s9, .int s10, .int s11, .int s12, .int s13, .rows s14, .int s15, .rows s16, .rows s17, .bool s18, .rows s19, .bool s20, .int s21, .int s22, .int s23, .rows s24, .int s25, .int s26, .int s27, .int e0, .int e1, .int e2, .int e3, .bool e4, .int e5, .int e6, .int e7, .int e8, .int e9, .int e10, .int e11, .bool e12, .int e13, .int e14, .int e15, .int e16, .bool e17, .int e18] = some (BG (Kj (⟨r0, r1, r2, r3, r4, r5, r6, r7, r8, r9, r10, r11, r12, r13⟩ : Rul) (⟨s0, s1, s2, s3, s4, s5, s6, s7, s8, s9, s10, s11, s12, s13, s14, s15, s16, s17, s18, s19, s20, s21, s22, s23, s24, s25, s26, s27⟩ : Inn) e1 e4)) := by
 show EW (std (H4 N) N) (xOf _) = _
 generalize hres : (some (BG (Kj (⟨r0, r1, r2, r3, r4, r5, r6, r7, r8, r9, r10, r11, r12, r13⟩ : Rul) (⟨s0, s1, s2, s3, s4, s5, s6, s7, s8, s9, s10, s11, s12, s13, s14, s15, s16, s17, s18, s19, s20, s21, s22, s23, s24, s25, s26, s27⟩ : Inn) e1 e4)) : Option (List PV)) = RR
 rcases he with he | he <;> subst he
 ·simp only [EW, FQ, std, xOf, PXb, PXc, PXn, PXm, Nat.reduceAdd, Int.reduceBEq, Bw h, wr1, wr2, aP, cM]
  subst hres; simp only [Kj, Int.reduceBEq, beq_self_eq_true, cond_true, cond_false]
  cases s18 <;> cases e4 <;> first | rfl | (cases iLe r11 s25 <;> rfl)
 ·simp only [EW, FQ, std, xOf, PXb, PXc, PXn, PXm, Nat.reduceAdd, Int.reduceBEq, Bw h, wr1, wr2, aP, cM]
  subst hres; simp only [Kj, Int.reduceBEq, beq_self_eq_true, cond_true, cond_false]
  cases s18 <;> cases e4 <;> first | rfl | (cases iLe r11 s26 <;> rfl)
theorem YF {N : Nat} {r1 r2 r3 r4 r5 r6 r7 r9 r10 r11 r12 : Int} {r8 : Bool} {r0 : ByteArray} {r13 : Rows} {s0 s1 s2 s3 s4 s5 s6 s7 s8 s9 s10 s11 s12 s13 s15 s21 s22 s23 s25 s26 s27 : Int} {s18 s20 : Bool} {s14 s16 s17 s19 s24 : Rows}  : FE N [.str r0, .int r1, .int r2, .int r3, .int r4, .int r5, .int r6, .int r7, .bool r8, .int r9, .int r10, .int r11, .int r12, .rows r13, .int s0, .int s1, .int s2, .int s3, .int s4, .int s5, .int s6, .int s7, .int s8, .int s9, .int s10, .int s11, .int s12, .int s13, .rows s14, .int s15, .rows s16, .rows s17, .bool s18, .rows s19, .bool s20, .int s21, .int s22, .int s23, .rows s24, .int s25, .int s26, .int s27] = some [.int (Cd r4 s10 s11)] := by
 rfl
def MY (r : Rul) (s : Inn) (runs overs : Int) : Inn × Int :=
  cond (r.overs == 0 || (runs == 0 && overs == 0)) (s, 25) (cond (iLt 0 runs && (s.target == 0 || iLe runs s.runs)) (s, 25)
    (cond (iLt 0 overs && (iLt r.overs overs || iLt (IntKind.i64.wrap (overs * r.balls)) (Cd r.balls s.complete s.inover))) (s, 25)
      ({ s with target := cond (iLt 0 runs) runs s.target, overs := cond (iLt 0 overs) overs s.overs }, 0)))
theorem Wh {N : Nat} {r1 r2 r3 r4 r5 r6 r7 r9 r10 r11 r12 : Int} {r8 : Bool} {r0 : ByteArray} {r13 : Rows} {s0 s1 s2 s3 s4 s5 s6 s7 s8 s9 s10 s11 s12 s13 s15 s21 s22 s23 s25 s26 s27 : Int} {s18 s20 : Bool} {s14 s16 s17 s19 s24 : Rows} {e0 e1 e2 e3 e5 e6 e7 e8 e9 e10 e11 e13 e14 e15 e16 e18 : Int} {e4 e12 e17 : Bool} (h : Fit s14 s16 s17 s19 s24) : ES N [.str r0, .int r1, .int r2, .int r3, .int r4, .int r5, .int r6, .int r7, .bool r8, .int r9, .int r10, .int r11, .int r12, .rows r13, .int s0, .int s1, .int s2, .int s3, .int s4, .int s5, .int s6, .int s7, .int s8, .int s9, .int s10, .int s11, .int s12, .int s13, .rows s14, .int s15, .rows s16, .rows s17, .bool s18, .rows s19, .bool s20, .int s21, .int s22, .int s23, .rows s24, .int s25, .int s26, .int s27, .int e0, .int e1, .int e2, .int e3, .bool e4, .int e5, .int e6, .int e7, .int e8, .int e9, .int e10, .int e11, .bool e12, .int e13, .int e14, .int e15, .int e16, .bool e17, .int e18] = some (BG (MY (⟨r0, r1, r2, r3, r4, r5, r6, r7, r8, r9, r10, r11, r12, r13⟩ : Rul) (⟨s0, s1, s2, s3, s4, s5, s6, s7, s8, s9, s10, s11, s12, s13, s14, s15, s16, s17, s18, s19, s20, s21, s22, s23, s24, s25, s26, s27⟩ : Inn) e5 e6)) := by
 show G0 (std (FH N) N) (xOf _) = _
 generalize hres : (some (BG (MY (⟨r0, r1, r2, r3, r4, r5, r6, r7, r8, r9, r10, r11, r12, r13⟩ : Rul) (⟨s0, s1, s2, s3, s4, s5, s6, s7, s8, s9, s10, s11, s12, s13, s14, s15, s16, s17, s18, s19, s20, s21, s22, s23, s24, s25, s26, s27⟩ : Inn) e5 e6)) : Option (List PV)) = RR
 simp only [G0, Lx, LR, std, xOf, PXb, PXc, PXn, PXm, Nat.reduceAdd, Int.reduceBEq, Bw h, YF]
 subst hres; simp only [MY]
 cases (r3 == 0 || e5 == 0 && e6 == 0) <;> try rfl
 cases (iLt 0 e5 && (s1 == 0 || iLe e5 s3)) <;> try rfl
 cases iLt 0 e6 <;> cases iLt r3 e6 <;> try rfl
 simp only [PXb, PXc, PXn, PXm, Nat.reduceAdd, Int.reduceBEq]
 cases iLt (IntKind.i64.wrap (e6 * r4)) (Cd r4 s10 s11) <;> rfl
end Go.Px
end
section
namespace Go.Px
set_option maxRecDepth 100000
def B3 (r : Rul) (s : Inn) (e : Ev) : Inn × Int :=
  cond (e.kind == 2) (SG s e.player e.other) (cond (e.kind == 3) (ST r s e.player) (cond (e.kind == 4) (Lb r s e.ball)
    (cond (e.kind == 5) (cond e.yes (Gr s e.player) (Ni s e.player)) (cond (e.kind == 6) (Ik s e.player e.yes) (cond (e.kind == 7) (KP s e.runs)
      (cond (e.kind == 8) (MX s e.player) (cond (e.kind == 9) (PA s e.player e.yes) (cond (e.kind == 10) (KI r s) (cond (e.kind == 11) (KJ r s e.side)
        (cond (e.kind == 13) (Gi s e.side e.runs) (cond (e.kind == 14) (Kj r s e.side e.yes) (MY r s e.runs e.overs))))))))))))
theorem YP {e : Ev} (h : (evS e == 0) = true) : (iLt e.kind 1 || iLt 16 e.kind) = false := by
 unfold evS at h
 cases hk : (iLt e.kind 1 || iLt 16 e.kind) with
 | false => rfl
 | true => rw [hk] at h; cases h
theorem kg {e : Ev} (h : (evS e == 0) = true) (hk : e.kind = 14) : e.side = 1 ∨ e.side = 2 := by
 have h0 := YP h
 unfold evS at h
 rw [h0] at h
 cases h1 : br e with
 | true => rw [h1] at h; cases h
 | false =>
  cases h2 : WT e with
  | true => rw [h1, h2] at h; cases h
  | false =>
   unfold WT at h2
   rw [Bool.or_eq_false_iff] at h2
   have h3 := h2.1
   rw [hk, show uS 14 = true from rfl, Bool.and_true] at h3
   simp only [btw, iLe, Bool.not_eq_false', Bool.and_eq_true, decide_eq_true_eq] at h3
   omega
set_option maxHeartbeats 4000000 in
theorem VW {N : Nat} {r1 r2 r3 r4 r5 r6 r7 r9 r10 r11 r12 : Int} {r8 : Bool} {r0 : ByteArray} {r13 : Rows} {s0 s1 s2 s3 s4 s5 s6 s7 s8 s9 s10 s11 s12 s13 s15 s21 s22 s23 s25 s26 s27 : Int} {s18 s20 : Bool} {s14 s16 s17 s19 s24 : Rows} {e0 e1 e2 e3 e5 e6 e7 e8 e9 e10 e11 e13 e14 e15 e16 e18 : Int} {e4 e12 e17 : Bool} (h : Fit s14 s16 s17 s19 s24) (hw : s17.length + s16.length ≤ 1000000) (hN : 2097152 < N) (hs : r0.size ≤ 1048576) (h13 : r13.length ≤ 1048576) (he : (evS (⟨e0, e1, e2, e3, e4, e5, e6, ⟨e7, e8, e9, e10, e11, e12, e13, e14, e15, e16, e17, e18⟩⟩ : Ev) == 0) = true) : Dp N [.str r0, .int r1, .int r2, .int r3, .int r4, .int r5, .int r6, .int r7, .bool r8, .int r9, .int r10, .int r11, .int r12, .rows r13, .int s0, .int s1, .int s2, .int s3, .int s4, .int s5, .int s6, .int s7, .int s8, .int s9, .int s10, .int s11, .int s12, .int s13, .rows s14, .int s15, .rows s16, .rows s17, .bool s18, .rows s19, .bool s20, .int s21, .int s22, .int s23, .rows s24, .int s25, .int s26, .int s27, .int e0, .int e1, .int e2, .int e3, .bool e4, .int e5, .int e6, .int e7, .int e8, .int e9, .int e10, .int e11, .bool e12, .int e13, .int e14, .int e15, .int e16, .bool e17, .int e18] = some (BG (B3 (⟨r0, r1, r2, r3, r4, r5, r6, r7, r8, r9, r10, r11, r12, r13⟩ : Rul) (⟨s0, s1, s2, s3, s4, s5, s6, s7, s8, s9, s10, s11, s12, s13, s14, s15, s16, s17, s18, s19, s20, s21, s22, s23, s24, s25, s26, s27⟩ : Inn) (⟨e0, e1, e2, e3, e4, e5, e6, ⟨e7, e8, e9, e10, e11, e12, e13, e14, e15, e16, e17, e18⟩⟩ : Ev))) := by
  show Dv (std (Aa N) N) (xOf _) = _
  generalize hres : (some (BG (B3 (⟨r0, r1, r2, r3, r4, r5, r6, r7, r8, r9, r10, r11, r12, r13⟩ : Rul) (⟨s0, s1, s2, s3, s4, s5, s6, s7, s8, s9, s10, s11, s12, s13, s14, s15, s16, s17, s18, s19, s20, s21, s22, s23, s24, s25, s26, s27⟩ : Inn) (⟨e0, e1, e2, e3, e4, e5, e6, ⟨e7, e8, e9, e10, e11, e12, e13, e14, e15, e16, e17, e18⟩⟩ : Ev))) : Option (List PV)) = RR
  have hsd : e0 = 14 → e1 = 1 ∨ e1 = 2 := kg (e := (⟨e0, e1, e2, e3, e4, e5, e6, ⟨e7, e8, e9, e10, e11, e12, e13, e14, e15, e16, e17, e18⟩⟩ : Ev)) he
  rcases YQ (YP he) with hk | hk | hk | hk | hk | hk | hk | hk | hk | hk | hk | hk | hk | hk | hk | hk <;> simp only at hk <;> subst hk <;> clear he
  all_goals (first
    | (have hsd := hsd rfl
       simp only [Dv, Fi, GB, E7, EV, FR, Ej, En, E3, D2, Ek, EC, EA, EJ, EP, std, xOf, PXb, PXc, PXn, PXm, Nat.reduceAdd, Int.reduceBEq, WE h hsd]
       subst hres
       rfl)
    | (simp only [Dv, Fi, GB, E7, EV, FR, Ej, En, E3, D2, Ek, EC, EA, EJ, EP, std, xOf, PXb, PXc, PXn, PXm, Nat.reduceAdd, Int.reduceBEq, Zu h hN, bB h hN hs, YL h hw hN hs h13, Wp h hN, YM h hN, X8 h hN, Xf h, Ya h, Uf h, X7 h hN hs, VU h, VN h, Wh h]
       subst hres
       first
       | rfl
       | (cases e4 <;> rfl)))
end Go.Px
end
section
namespace Go.Px
set_option maxRecDepth 100000
theorem Lens.of {s t : Inn} (h1 : t.batters.length = s.batters.length) (h2 : t.bowled.length = s.bowled.length) (h3 : t.subs.length = s.subs.length) (h4 : t.bowlers = s.bowlers) (h5 : t.before = s.before) : Lens s t := ⟨h1, h2, h3, by rw [h4]; omega, by rw [h5]; omega⟩
theorem L_c {s : Inn} (b : Bool) (x y : Inn × Int) (hx : Lens s x.1) (hy : Lens s y.1) : Lens s (cond b x y).1 := by cases b <;> assumption
theorem gr (s : Inn) (p q : Int) : Lens s (SG s p q).1 := by
 unfold SG
 exact L_c _ _ _ (Lens.refl s) (L_c _ _ _ (Lens.refl s) (L_c _ _ _ (Lens.refl s) (Lens.of (by simp [KY]) rfl rfl rfl rfl)))
theorem gG (r : Rul) (s : Inn) (p : Int) : Lens s (ST r s p).1 := by
 unfold ST
 exact P_c (P := fun x : Inn => Lens s x) _ _ _ (Lens.of rfl rfl rfl rfl rfl) (Lens.refl s)
theorem gW (r : Rul) (s : Inn) (d : Del) : Lens s (Lb r s d).1 := by
 unfold Lb
 refine L_c _ _ _ (Lens.refl s) ?_
 have l1 := bT s d
 have w1 := gu s d
 have w2 := gz s d
 simp only [bc]
 have l2 := ZR r (Ad s d) (AB r d).counts
 cases (Aj r (Ad s d) (AB r d).counts).2
 ·exact ⟨l2.bt.trans l1.bt, l2.bd.trans l1.bd, l2.sb.trans l1.sb, by have := l2.bw; rw [w1] at this; exact this, by have := l2.bf; rw [w1, w2] at this; exact this⟩
 ·exact ⟨l2.bt.trans l1.bt, l2.bd.trans l1.bd, l2.sb.trans l1.sb, by have := l2.bw; rw [w1] at this; exact this, by have := l2.bf; rw [w1, w2] at this; exact this⟩
theorem aj (s : Inn) (p : Int) : Lens s (Gr s p).1 := by
 unfold Gr
 exact L_c _ _ _ (Lens.of (by simp [KY]) rfl rfl rfl rfl) (Lens.refl s)
theorem fC (s : Inn) (p : Int) : Lens s (Ni s p).1 := by
 unfold Ni
 exact L_c _ _ _ (Lens.of (by simp [KY]) rfl rfl rfl rfl) (Lens.refl s)
theorem cz (s : Inn) (p : Int) (b : Bool) : Lens s (Ik s p b).1 := by
 unfold Ik
 exact L_c _ _ _ (Lens.refl s) (L_c _ _ _ (Lens.refl s) (L_c _ _ _ (Lens.refl s) (L_c _ _ _ (Lens.refl s) (Lens.of (by simp [KY]) rfl rfl rfl rfl))))
theorem aS (s : Inn) (n : Int) : Lens s (KP s n).1 := by
 unfold KP
 exact L_c _ _ _ (Lens.refl s) (Lens.of rfl rfl rfl rfl rfl)
theorem dN (s : Inn) (n : Int) : Lens s (MX s n).1 := by
 unfold MX
 exact L_c _ _ _ (Lens.refl s) (L_c _ _ _ (Lens.refl s) (L_c _ _ _ (Lens.refl s) (Lens.of rfl rfl rfl rfl rfl)))
theorem fF (s : Inn) (n : Int) (b : Bool) : Lens s (PA s n b).1 := by
 unfold PA
 exact L_c _ _ _ (Lens.refl s) (L_c _ _ _ (Lens.refl s) (Lens.of rfl rfl (by simp [iq]) rfl rfl))
theorem cW (r : Rul) (s : Inn) : Lens s (KI r s).1 := by
 unfold KI
 exact L_c _ _ _ (Lens.refl s) (Lens.of rfl rfl rfl rfl rfl)
theorem aJ (r : Rul) (s : Inn) (n : Int) : Lens s (KJ r s n).1 := by
 unfold KJ
 exact L_c _ _ _ (Lens.refl s) (L_c _ _ _ (Lens.refl s) (Lens.of rfl rfl rfl rfl rfl))
theorem bR (s : Inn) (n m : Int) : Lens s (Gi s n m).1 := by
 unfold Gi
 exact L_c _ _ _ (Lens.refl s) (L_c _ _ _ (Lens.of rfl rfl rfl rfl rfl) (Lens.of rfl rfl rfl rfl rfl))
theorem dD (r : Rul) (s : Inn) (n : Int) (b : Bool) : Lens s (Kj r s n b).1 := by
 unfold Kj
 exact L_c _ _ _ (Lens.refl s) (L_c _ _ _ (Lens.of rfl rfl rfl rfl rfl) (Lens.refl s))
theorem cq (r : Rul) (s : Inn) (n m : Int) : Lens s (MY r s n m).1 := by
 unfold MY
 exact L_c _ _ _ (Lens.refl s) (L_c _ _ _ (Lens.refl s) (L_c _ _ _ (Lens.refl s) (Lens.of rfl rfl rfl rfl rfl)))
theorem Tq (r : Rul) (s : Inn) (e : Ev) : Lens s (B3 r s e).1 := by
  unfold B3
  exact L_c _ _ _ (gr ..) (L_c _ _ _ (gG ..) (L_c _ _ _ (gW ..) (L_c _ _ _ (L_c _ _ _ (aj ..) (fC ..)) (L_c _ _ _ (cz ..) (L_c _ _ _ (aS ..)
    (L_c _ _ _ (dN ..) (L_c _ _ _ (fF ..) (L_c _ _ _ (cW ..) (L_c _ _ _ (aJ ..) (L_c _ _ _ (bR ..) (L_c _ _ _ (dD ..) (cq ..))))))))))))
def F1 (r : Rul) (s : Inn) : Bool := Rv r.name r.side r.innings r.overs r.balls r.quota r.wide r.noball r.newball r.followon r.reviews r.outside r.power s.batters s.bowlers s.before s.bowled s.subs s.side s.target s.overs s.runs s.wickets s.wides s.noballs s.byes s.legbyes s.pens s.complete s.inover s.striker s.other s.bowler s.ballage s.keeper s.outside s.rev1 s.rev2 s.ending
def lV (r : Rul) (s : Inn) : Int := iK (F1 r s) s.batters s.striker s.other s.target s.overs s.runs s.complete
theorem Qy {N : Nat} {r1 r2 r3 r4 r5 r6 r7 r9 r10 r11 r12 : Int} {r8 : Bool} {r0 : ByteArray} {r13 : Rows} {s0 s1 s2 s3 s4 s5 s6 s7 s8 s9 s10 s11 s12 s13 s15 s21 s22 s23 s25 s26 s27 : Int} {s18 s20 : Bool} {s14 s16 s17 s19 s24 : Rows} (h : Fit s14 s16 s17 s19 s24) (hN : 2097152 < N) (hs : r0.size ≤ 1048576) : BI N [.str r0, .int r1, .int r2, .int r3, .int r4, .int r5, .int r6, .int r7, .bool r8, .int r9, .int r10, .int r11, .int r12, .rows r13, .int s0, .int s1, .int s2, .int s3, .int s4, .int s5, .int s6, .int s7, .int s8, .int s9, .int s10, .int s11, .int s12, .int s13, .rows s14, .int s15, .rows s16, .rows s17, .bool s18, .rows s19, .bool s20, .int s21, .int s22, .int s23, .rows s24, .int s25, .int s26, .int s27] = some [.bool (F1 (⟨r0, r1, r2, r3, r4, r5, r6, r7, r8, r9, r10, r11, r12, r13⟩ : Rul) (⟨s0, s1, s2, s3, s4, s5, s6, s7, s8, s9, s10, s11, s12, s13, s14, s15, s16, s17, s18, s19, s20, s21, s22, s23, s24, s25, s26, s27⟩ : Inn))] := by
 exact PF N _ _ _ _ _ _ _ _ _ _ _ _ _ _ _ _ _ _ _ _ _ _ _ _ _ _ _ _ _ _ _ _ _ _ _ _ _ _ _ _ _ _ hN hs h.bt h.bw h.bf h.bd
theorem WK {N : Nat} {r1 r2 r3 r4 r5 r6 r7 r9 r10 r11 r12 : Int} {r8 : Bool} {r0 : ByteArray} {r13 : Rows} {s0 s1 s2 s3 s4 s5 s6 s7 s8 s9 s10 s11 s12 s13 s15 s21 s22 s23 s25 s26 s27 : Int} {s18 s20 : Bool} {s14 s16 s17 s19 s24 : Rows} (h : Fit s14 s16 s17 s19 s24) (hN : 2097152 < N) (hs : r0.size ≤ 1048576) : DA N [.str r0, .int r1, .int r2, .int r3, .int r4, .int r5, .int r6, .int r7, .bool r8, .int r9, .int r10, .int r11, .int r12, .rows r13, .int s0, .int s1, .int s2, .int s3, .int s4, .int s5, .int s6, .int s7, .int s8, .int s9, .int s10, .int s11, .int s12, .int s13, .rows s14, .int s15, .rows s16, .rows s17, .bool s18, .rows s19, .bool s20, .int s21, .int s22, .int s23, .rows s24, .int s25, .int s26, .int s27] = some [.int (lV (⟨r0, r1, r2, r3, r4, r5, r6, r7, r8, r9, r10, r11, r12, r13⟩ : Rul) (⟨s0, s1, s2, s3, s4, s5, s6, s7, s8, s9, s10, s11, s12, s13, s14, s15, s16, s17, s18, s19, s20, s21, s22, s23, s24, s25, s26, s27⟩ : Inn))] := by
 exact VS N _ _ _ _ _ _ _ _ _ _ _ _ _ _ _ _ _ _ _ _ _ _ _ _ _ _ _ _ _ _ _ _ _ _ _ _ _ _ _ _ _ _ hN hs h.bt h.bw h.bf h.bd
def cP (t : Inn) (b : Bool) : Inn := ⟨t.side, t.target, t.overs, t.runs, t.wickets, t.wides, t.noballs, t.byes, t.legbyes, t.pens, t.complete, t.inover, t.striker, t.other, t.batters, t.bowler, t.bowlers, t.before, b, t.bowled, t.freehit, t.ballage, t.keeper, t.outside, t.subs, t.rev1, t.rev2, t.ending⟩
def Bf (r : Rul) (t : Inn) (b : Bool) : Inn := { cP t b with ending := cond (t.ending == 0) (lV r (cP t b)) t.ending }
def U8 (s : Inn) (e : Ev) : Bool := e.kind == 1 || e.kind == 12 || e.kind == 16 || (!Co s.batters && !(e.kind == 2))
def Al (r : Rul) (s : Inn) (e : Ev) : Inn × Int :=
  cond (!F1 r s || !(evS e == 0)) (s, 1) (cond (!(s.ending == 0)) (s, 26) (cond (U8 s e) (s, 1)
    (cond (!((B3 r s e).2 == 0)) (s, (B3 r s e).2) (Bf r (B3 r s e).1 (e.kind == 4), 0))))
set_option maxHeartbeats 4000000 in
theorem MN {N : Nat} {r1 r2 r3 r4 r5 r6 r7 r9 r10 r11 r12 : Int} {r8 : Bool} {r0 : ByteArray} {r13 : Rows} {s0 s1 s2 s3 s4 s5 s6 s7 s8 s9 s10 s11 s12 s13 s15 s21 s22 s23 s25 s26 s27 : Int} {s18 s20 : Bool} {s14 s16 s17 s19 s24 : Rows} {e0 e1 e2 e3 e5 e6 e7 e8 e9 e10 e11 e13 e14 e15 e16 e18 : Int} {e4 e12 e17 : Bool} (h : Fit s14 s16 s17 s19 s24) (hw : s17.length + s16.length ≤ 1000000) (hN : 2097152 < N) (hs : r0.size ≤ 1048576) (h13 : r13.length ≤ 1048576) : GF N [.str r0, .int r1, .int r2, .int r3, .int r4, .int r5, .int r6, .int r7, .bool r8, .int r9, .int r10, .int r11, .int r12, .rows r13, .int s0, .int s1, .int s2, .int s3, .int s4, .int s5, .int s6, .int s7, .int s8, .int s9, .int s10, .int s11, .int s12, .int s13, .rows s14, .int s15, .rows s16, .rows s17, .bool s18, .rows s19, .bool s20, .int s21, .int s22, .int s23, .rows s24, .int s25, .int s26, .int s27, .int e0, .int e1, .int e2, .int e3, .bool e4, .int e5, .int e6, .int e7, .int e8, .int e9, .int e10, .int e11, .bool e12, .int e13, .int e14, .int e15, .int e16, .bool e17, .int e18] = some (BG (Al (⟨r0, r1, r2, r3, r4, r5, r6, r7, r8, r9, r10, r11, r12, r13⟩ : Rul) (⟨s0, s1, s2, s3, s4, s5, s6, s7, s8, s9, s10, s11, s12, s13, s14, s15, s16, s17, s18, s19, s20, s21, s22, s23, s24, s25, s26, s27⟩ : Inn) (⟨e0, e1, e2, e3, e4, e5, e6, ⟨e7, e8, e9, e10, e11, e12, e13, e14, e15, e16, e17, e18⟩⟩ : Ev))) := by
 show Iw (std (B4 N) N) (xOf _) = _
 generalize hres : (some (BG (Al (⟨r0, r1, r2, r3, r4, r5, r6, r7, r8, r9, r10, r11, r12, r13⟩ : Rul) (⟨s0, s1, s2, s3, s4, s5, s6, s7, s8, s9, s10, s11, s12, s13, s14, s15, s16, s17, s18, s19, s20, s21, s22, s23, s24, s25, s26, s27⟩ : Inn) (⟨e0, e1, e2, e3, e4, e5, e6, ⟨e7, e8, e9, e10, e11, e12, e13, e14, e15, e16, e17, e18⟩⟩ : Ev))) : Option (List PV)) = RR
 have l1 := Tq (⟨r0, r1, r2, r3, r4, r5, r6, r7, r8, r9, r10, r11, r12, r13⟩ : Rul) (⟨s0, s1, s2, s3, s4, s5, s6, s7, s8, s9, s10, s11, s12, s13, s14, s15, s16, s17, s18, s19, s20, s21, s22, s23, s24, s25, s26, s27⟩ : Inn) (⟨e0, e1, e2, e3, e4, e5, e6, ⟨e7, e8, e9, e10, e11, e12, e13, e14, e15, e16, e17, e18⟩⟩ : Ev)
 have f1 := PR l1 h (by simp only; omega)
 simp only [Iw, Nq, MT, MI, Mi, E8, Fh, std, xOf, PXb, Qy h hN hs, S5 hN, Bw h, Xl h.bt hN]
 subst hres; simp only [Al, U8]
 cases F1 (⟨r0, r1, r2, r3, r4, r5, r6, r7, r8, r9, r10, r11, r12, r13⟩ : Rul) (⟨s0, s1, s2, s3, s4, s5, s6, s7, s8, s9, s10, s11, s12, s13, s14, s15, s16, s17, s18, s19, s20, s21, s22, s23, s24, s25, s26, s27⟩ : Inn)
 ·rfl
 cases he : evS (⟨e0, e1, e2, e3, e4, e5, e6, ⟨e7, e8, e9, e10, e11, e12, e13, e14, e15, e16, e17, e18⟩⟩ : Ev) == 0
 ·simp only [PXb, PXc, PXn, PXm, Nat.reduceAdd, Int.reduceBEq, he]
 simp only [PXb, PXc, PXn, PXm, Nat.reduceAdd, Int.reduceBEq, he]
 cases s27 == 0 <;> try rfl
 cases (e0 == 1 || e0 == 12 || e0 == 16) <;> cases Co s14 <;> cases e0 == 2 <;> try rfl
 all_goals (simp only [PXb, PXc, PXn, PXm, Nat.reduceAdd, Int.reduceBEq, E8, Fh, VW h hw hN hs h13 he, WK f1 hN hs])
 all_goals (unfold Bf cP; cases (B3 (⟨r0, r1, r2, r3, r4, r5, r6, r7, r8, r9, r10, r11, r12, r13⟩ : Rul) (⟨s0, s1, s2, s3, s4, s5, s6, s7, s8, s9, s10, s11, s12, s13, s14, s15, s16, s17, s18, s19, s20, s21, s22, s23, s24, s25, s26, s27⟩ : Inn) (⟨e0, e1, e2, e3, e4, e5, e6, ⟨e7, e8, e9, e10, e11, e12, e13, e14, e15, e16, e17, e18⟩⟩ : Ev)).2 == 0 <;> cases (B3 (⟨r0, r1, r2, r3, r4, r5, r6, r7, r8, r9, r10, r11, r12, r13⟩ : Rul) (⟨s0, s1, s2, s3, s4, s5, s6, s7, s8, s9, s10, s11, s12, s13, s14, s15, s16, s17, s18, s19, s20, s21, s22, s23, s24, s25, s26, s27⟩ : Inn) (⟨e0, e1, e2, e3, e4, e5, e6, ⟨e7, e8, e9, e10, e11, e12, e13, e14, e15, e16, e17, e18⟩⟩ : Ev)).1.ending == 0 <;> rfl)
end Go.Px
end
section
namespace Go.Px
set_option maxRecDepth 100000
theorem lU (L : Rows) (c : Nat) : (cut L c).length ≤ c := by
 unfold cut
 rw [List.length_drop, List.length_take]
 cases h : iLt (c : Int) (L.length : Int) with
 | true => simp only [cond_true]; omega
 | false => simp only [iLt, decide_eq_false_iff_not] at h; simp only [cond_false]; omega
theorem dC {s t : Inn} (r : Rul) (b : Bool) (h : Lens s t) : Lens s (Bf r t b) := ⟨h.bt, h.bd, h.sb, h.bw, h.bf⟩
theorem QP (r : Rul) (s : Inn) (e : Ev) : Lens s (Al r s e).1 := by
 unfold Al
 exact L_c _ _ _ (Lens.refl s) (L_c _ _ _ (Lens.refl s) (L_c _ _ _ (Lens.refl s) (L_c _ _ _ (Lens.refl s) (dC r _ (Tq r s e)))))
end Go.Px
end
section
namespace Go.Px
set_option maxRecDepth 100000
theorem YY {r : Rul} {s : Inn} {e : Ev} (h : ((Al r s e).2 == 0) = true) :
    F1 r s = true ∧ (evS e == 0) = true ∧ (s.ending == 0) = true ∧ U8 s e = false ∧ ((B3 r s e).2 == 0) = true ∧ (Al r s e).1 = Bf r (B3 r s e).1 (e.kind == 4) := by
  unfold Al at h ⊢
  cases hv : F1 r s with
  | false => rw [hv] at h; cases h
  | true =>
    cases he : evS e == 0 with
    | false => rw [hv, he] at h; cases h
    | true =>
      cases hn : s.ending == 0 with
      | false => rw [hv, he, hn] at h; cases h
      | true =>
        cases hw : U8 s e with
        | true => rw [hv, he, hn, hw] at h; cases h
        | false =>
          cases hp : (B3 r s e).2 == 0 with
          | false => rw [hv, he, hn, hw, hp] at h; exact absurd (hp ▸ h) (by decide)
          | true => exact ⟨rfl, rfl, rfl, rfl, rfl, rfl⟩
end Go.Px
end
section
namespace Go.Px
set_option maxRecDepth 100000
theorem R5 {x a b : Int} : btw x a b = true ↔ a ≤ x ∧ x ≤ b := by simp [btw, iLe]
structure RulOk (r : Rul) : Prop where
 side : 2 ≤ r.side ∧ r.side ≤ 11
 innings : 1 ≤ r.innings ∧ r.innings ≤ 2
 overs : 0 ≤ r.overs ∧ r.overs ≤ 90
 balls : 4 ≤ r.balls ∧ r.balls ≤ 8
 quota : 0 ≤ r.quota ∧ r.quota ≤ 90
 wide : 1 ≤ r.wide ∧ r.wide ≤ 5
 noball : 1 ≤ r.noball ∧ r.noball ≤ 5
 newball : 0 ≤ r.newball ∧ r.newball ≤ 200
 followon : 0 ≤ r.followon ∧ r.followon ≤ 1000
 reviews : 0 ≤ r.reviews ∧ r.reviews ≤ 9
 outside : 0 ≤ r.outside ∧ r.outside ≤ 11
theorem Ew {r : Rul} (h : BA r = 0) : RulOk r := by
 unfold BA Ki at h
 cases hn : T8 r.name with
 | false => rw [hn] at h; cases h
 | true =>
  cases hr : MV r.side r.innings r.overs r.balls r.quota r.wide r.noball r.newball r.followon r.reviews r.outside with
  | false => rw [hn, hr] at h; cases h
  | true =>
   unfold MV at hr
   simp only [Bool.and_eq_true, R5] at hr
   obtain ⟨⟨⟨⟨⟨⟨⟨⟨⟨⟨h1, h2⟩, h3⟩, h4⟩, h5⟩, h6⟩, h7⟩, h8⟩, h9⟩, h10⟩, h11⟩ := hr
   exact ⟨h1, h2, h3, h4, h5, h6, h7, h8, h9, h10, h11⟩
def Bh (x : Int) : Prop := 0 ≤ x ∧ x ≤ 1000000000
structure InnOk (r : Rul) (s : Inn) : Prop where
 code : BA r = 0
 side : 1 ≤ s.side ∧ s.side ≤ 2
 lb : (s.batters.length : Int) = r.side
 ld : (s.bowled.length : Int) = r.side
 lz : (s.subs.length : Int) = r.side
 ending : s.ending ≤ 5
 st : 0 ≤ s.striker ∧ s.striker ≤ r.side
 ot : 0 ≤ s.other ∧ s.other ≤ r.side
 bat : U4 s.batters s.striker s.other s.wickets = true
 bow : 0 ≤ s.bowler ∧ s.bowler ≤ r.side
 kee : 0 ≤ s.keeper ∧ s.keeper ≤ r.side
 dw : JR s.bowlers r.side = true
 df : JR s.before r.side = true
 ov : YV r.overs s.overs = true
 io : 0 ≤ s.inover ∧ s.inover ≤ r.balls - 1
 target : Bh s.target
 runs : Bh s.runs
 wides : Bh s.wides
 noballs : Bh s.noballs
 byes : Bh s.byes
 legbyes : Bh s.legbyes
 pens : Bh s.pens
 complete : Bh s.complete
 ballage : Bh s.ballage
 outside : Bh s.outside
 rev1 : Bh s.rev1
 rev2 : Bh s.rev2
 bowled : JB IU s.bowled = false
theorem kW {x : Int} : IU x = false ↔ Bh x := by
 unfold IU Bh
 rw [Bool.not_eq_false', R5]
theorem i7 (a b c d e f g h i j k l : Int) : JB IU (bU a b c d e f g h i j k l) = false ↔ Bh a ∧ Bh b ∧ Bh c ∧ Bh d ∧ Bh e ∧ Bh f ∧ Bh g ∧ Bh h ∧ Bh i ∧ Bh j ∧ Bh k ∧ Bh l := by
 rw [Mh]
 simp only [bU, List.any_cons, List.any_nil, Bool.or_false, ZJ, js, Bool.or_eq_false_iff, kW]
theorem XA {r : Rul} (h : RulOk r) : IntKind.i64.wrap (r.balls - 1) = r.balls - 1 := by
 have := h.balls
 exact DQ (by omega) (by omega)
theorem dr {x : Int} : (!iLt 5 x) = true ↔ x ≤ 5 := by
 rw [Bool.not_eq_true']
 simp only [iLt, decide_eq_false_iff_not]
 omega
theorem NJ {r : Rul} {s : Inn} : F1 r s = true ↔ InnOk r s := by
 unfold F1 Rv
 simp only [Bool.and_eq_true, Bool.not_eq_true', i7, R5]
 constructor
 ·intro ⟨h1, h2, h3, h4, h5, h6, h7, h8, h9, h10, h11, h12, h13, h14, h15, ⟨n1, n2, n3, n4, n5, n6, n7, n8, n9, n10, n11, n12⟩, h17⟩
  have hc : BA r = 0 := beq_iff_eq.1 h1
  exact ⟨hc, h2, beq_iff_eq.1 h3, beq_iff_eq.1 h4, beq_iff_eq.1 h5, dr.1 (by rw [h6]; rfl), h7, h8, h9, h10, h11, h12, h13, h14, by rw [XA (Ew hc)] at h15; exact h15, n1, n2, n3, n4, n5, n6, n7, n8, n9, n10, n11, n12, h17⟩
 ·intro h
  have h6 := dr.2 h.ending
  rw [Bool.not_eq_true'] at h6
  exact ⟨beq_iff_eq.2 h.code, h.side, beq_iff_eq.2 h.lb, beq_iff_eq.2 h.ld, beq_iff_eq.2 h.lz, h6, h.st, h.ot, h.bat, h.bow, h.kee, h.dw, h.df, h.ov, by rw [XA (Ew h.code)]; exact h.io,
   ⟨h.target, h.runs, h.wides, h.noballs, h.byes, h.legbyes, h.pens, h.complete, h.ballage, h.outside, h.rev1, h.rev2⟩, h.bowled⟩
theorem Md (n : Int) : IntKind.i64.wrap n = (n + 9223372036854775808) % 18446744073709551616 - 9223372036854775808 := by
 unfold IntKind.wrap
 simp only [IntKind.signed, IntKind.bits]
 simp
 split <;> omega
theorem Gb (n : Int) : IntKind.i64.wrap (IntKind.i64.wrap n) = IntKind.i64.wrap n := by
 simp only [Md]; omega
theorem Kl (a b : Int) : IntKind.i64.wrap (IntKind.i64.wrap (a + b) - a) = IntKind.i64.wrap b := by
 simp only [Md]; omega
theorem TJ (a : Int) : IntKind.i64.wrap (a - a) = 0 := by rw [Int.sub_self]; rfl
theorem WV (s : Inn) (d : Del) : (Ad s d).runs = s.runs ∧ (Ad s d).wides = s.wides ∧ (Ad s d).noballs = s.noballs ∧ (Ad s d).byes = s.byes ∧ (Ad s d).legbyes = s.legbyes ∧ (Ad s d).pens = s.pens ∧ (Ad s d).complete = s.complete ∧ (Ad s d).inover = s.inover ∧ (Ad s d).bowler = s.bowler ∧ (Ad s d).bowled = s.bowled := by
  unfold Ad
  cases (!(d.runs.tmod 2 == 0) != d.crossed) <;> exact P_c (P := fun x : Inn => x.runs = s.runs ∧ x.wides = s.wides ∧ x.noballs = s.noballs ∧ x.byes = s.byes ∧ x.legbyes = s.legbyes ∧ x.pens = s.pens ∧ x.complete = s.complete ∧ x.inover = s.inover ∧ x.bowler = s.bowler ∧ x.bowled = s.bowled) _ _ _ ⟨rfl, rfl, rfl, rfl, rfl, rfl, rfl, rfl, rfl, rfl⟩
    (P_c (P := fun x : Inn => x.runs = s.runs ∧ x.wides = s.wides ∧ x.noballs = s.noballs ∧ x.byes = s.byes ∧ x.legbyes = s.legbyes ∧ x.pens = s.pens ∧ x.complete = s.complete ∧ x.inover = s.inover ∧ x.bowler = s.bowler ∧ x.bowled = s.bowled) _ _ _ ⟨rfl, rfl, rfl, rfl, rfl, rfl, rfl, rfl, rfl, rfl⟩ ⟨rfl, rfl, rfl, rfl, rfl, rfl, rfl, rfl, rfl, rfl⟩)
def Hd (r : Rul) (s : Inn) (d : Del) : Inn :=
 let o := Aj r (Ad s d) (AB r d).counts
 let t : Inn := cond o.2 (HU o.1) o.1
 { t with runs := IntKind.i64.wrap (s.runs + C8 (AB r d)), wides := IntKind.i64.wrap (s.wides + (AB r d).wides), noballs := IntKind.i64.wrap (s.noballs + (AB r d).noballs), byes := IntKind.i64.wrap (s.byes + (AB r d).byes), legbyes := IntKind.i64.wrap (s.legbyes + (AB r d).legbyes), freehit := cond (d.type == 1) false (cond (d.type == 3 && r.freehit) true o.1.freehit) }
theorem du {r : Rul} {s : Inn} {d : Del} (h : ((Lb r s d).2 == 0) = true) : (HX r s d == 0) = true ∧ (Lb r s d).1 = Hd r s d := by
 unfold Lb at h ⊢
 cases hr : HX r s d == 0 with
 | false => rw [hr] at h; exact absurd (hr ▸ h) (by decide)
 | true =>
  refine ⟨rfl, ?_⟩
  obtain ⟨k1, k2, k3, k4, k5, _⟩ := WV s d
  simp only [Bool.not_true, cond_false, bc, k1, k2, k3, k4, k5, Hd]
  generalize Aj r (Ad s d) (AB r d).counts = o
  obtain ⟨o1, o2⟩ := o
  cases o2 <;> rfl
theorem Y7 {r : Rul} {s : Inn} {d : Del} (h : (HX r s d == 0) = true) : GE s.batters s.striker s.other = false ∧ (s.bowler == 0) = false ∧ (Ps r s == 0) = true ∧ (E6 d == 0) = true ∧ (OZ d s.freehit == 0) = true ∧ (Pf s d == 0) = true := by
 unfold HX at h
 cases h1 : GE s.batters s.striker s.other with
 | true => rw [h1] at h; cases h
 | false =>
  cases h2 : s.bowler == 0 with
  | true => rw [h1, h2] at h; cases h
  | false =>
   rw [h1, h2] at h
   change (XQ _ _ _ _ == 0) = true at h
   unfold XQ at h
   cases h3 : Ps r s == 0 with
   | false => rw [h3] at h; exact absurd (h3 ▸ h) (by decide)
   | true =>
    cases h4 : E6 d == 0 with
    | false => rw [h3, h4] at h; exact absurd (h4 ▸ h) (by decide)
    | true =>
     cases h5 : OZ d s.freehit == 0 with
     | false => rw [h3, h4, h5] at h; exact absurd (h5 ▸ h) (by decide)
     | true =>
      cases h6 : Pf s d == 0 with
      | false => rw [h3, h4, h5, h6] at h; exact absurd (h6 ▸ h) (by decide)
      | true => exact ⟨rfl, rfl, rfl, rfl, rfl, rfl⟩
theorem V5 {d : Del} {f : Bool} (h : (OZ d f == 0) = true) (hd : (d.how == 0) = false) : (d.victim == 1) = true ∨ (d.victim == 2) = true := by
 unfold OZ at h
 rw [hd] at h
 cases h1 : d.victim == 1 with
 | true => exact .inl rfl
 | false =>
  cases h2 : d.victim == 2 with
  | true => exact .inr rfl
  | false =>
   rw [h1, h2] at h
   exfalso
   revert h
   cases (!onS d.how d.type || f && !Z7 d.how) <;> cases (!ML d.how && (!(d.source == 0) || !(d.runs == 0))) <;> intro h <;> cases h
theorem bn {s : Inn} {e : Ev} (h : U8 s e = false) (hk : (e.kind == 2) = false) : Co s.batters = true := by
 unfold U8 at h
 rw [hk] at h
 cases hb : Co s.batters with
 | true => rfl
 | false => rw [hb] at h; simp at h
theorem dq {s : Inn} {d : Del} (h1 : (s.striker == 0) = false) (h2 : (s.other == 0) = false) (hv : (d.how == 0) = false → (d.victim == 1) = true ∨ (d.victim == 2) = true) :
    (Ad s d).wickets = cond (d.how == 0) s.wickets (inc s.wickets) := by
  unfold Ad
  rw [h1, h2]
  cases hd : d.how == 0 with
  | true => cases (!(d.runs.tmod 2 == 0) != d.crossed) <;> rfl
  | false =>
    rcases hv hd with h | h <;> rw [h] <;> cases (!(d.runs.tmod 2 == 0) != d.crossed) <;> cases d.victim == 1 <;> rfl
theorem dc (r : Rul) (s : Inn) (b : Bool) : (Aj r s b).1.wickets = s.wickets ∧ (Aj r s b).1.pens = s.pens := by
 unfold Aj
 exact P_c (P := fun x : Inn × Bool => x.1.wickets = s.wickets ∧ x.1.pens = s.pens) _ _ _ ⟨rfl, rfl⟩ (P_c (P := fun x : Inn × Bool => x.1.wickets = s.wickets ∧ x.1.pens = s.pens) _ _ _ ⟨rfl, rfl⟩ ⟨rfl, rfl⟩)
theorem fG {r : Rul} {s : Inn} {b : Bool} (hr : RulOk r) (hc : BA r = 0) (hb : inR s.bowler s.bowled.length = true) (hi : 0 ≤ s.inover ∧ s.inover ≤ r.balls - 1) (hn : Bh s.complete) :
    IntKind.i64.wrap (Cd r.balls (Aj r s b).1.complete (Aj r s b).1.inover - Cd r.balls s.complete s.inover) = cond b 1 0 := by
  have hk : ∃ k : Nat, r.balls = k := ⟨r.balls.toNat, by have := hr.balls; omega⟩
  have hz := hr.balls
  unfold Bh at hn
  unfold Aj Cd
  rw [hb, hc]
  cases b with
  | false =>
    have h1 : iLt s.inover r.balls = true := by simp only [iLt, decide_eq_true_eq]; omega
    simp only [cond_false, h1, beq_self_eq_true, Bool.not_true, Bool.or_false, cond_true]
    exact TJ _
  | true =>
    have h2 : inc s.inover = s.inover + 1 := DQ (by omega) (by omega)
    simp only [cond_true, h2, beq_self_eq_true, Bool.not_true, Bool.or_false, cond_false]
    have h3 : inc s.complete = s.complete + 1 := DQ (by omega) (by omega)
    have hb5 : r.balls = 4 ∨ r.balls = 5 ∨ r.balls = 6 ∨ r.balls = 7 ∨ r.balls = 8 := by omega
    cases h1 : iLt (s.inover + 1) r.balls with
    | true =>
      simp only [cond_true]
      rcases hb5 with e | e | e | e | e <;> rw [e] at hi ⊢ <;> simp only [Md] <;> omega
    | false =>
      simp only [iLt, decide_eq_false_iff_not] at h1
      simp only [cond_false, h3]
      rcases hb5 with e | e | e | e | e <;> rw [e] at hi h1 ⊢ <;> simp only [Md] <;> omega
end Go.Px
end
section
namespace Go.Px
set_option maxRecDepth 100000
theorem aE {L : Rows} {s n : Int} (h : GE L s n = false) (hb : Co L = true) : (s == 0) = false ∧ (n == 0) = false := by
 unfold GE at h
 rw [hb, Bool.true_and, Bool.or_eq_false_iff] at h
 exact h
theorem fw {r : Rul} {s : Inn} (h : InnOk r s) (hb : (s.bowler == 0) = false) : inR s.bowler s.bowled.length = true := by
 have h1 := h.bow
 have h2 := h.ld
 rw [beq_eq_false_iff_ne] at hb
 simp only [inR, iLe, Bool.and_eq_true, decide_eq_true_eq]
 omega
theorem fX {r : Rul} {s : Inn} {e : Ev} (hk : (e.kind == 4) = true) (h : ((Al r s e).2 == 0) = true) :
    IntKind.i64.wrap ((Al r s e).1.runs - s.runs) = C8 (AB r e.ball) ∧ IntKind.i64.wrap ((Al r s e).1.wides - s.wides) = (AB r e.ball).wides ∧ IntKind.i64.wrap ((Al r s e).1.noballs - s.noballs) = (AB r e.ball).noballs ∧
    IntKind.i64.wrap ((Al r s e).1.byes - s.byes) = (AB r e.ball).byes ∧ IntKind.i64.wrap ((Al r s e).1.legbyes - s.legbyes) = (AB r e.ball).legbyes ∧ (Al r s e).1.pens = s.pens ∧
    IntKind.i64.wrap (Cd r.balls (Al r s e).1.complete (Al r s e).1.inover - Cd r.balls s.complete s.inover) = cond (AB r e.ball).counts 1 0 ∧
    IntKind.i64.wrap ((Al r s e).1.wickets - s.wickets) = cond (e.ball.how == 0) 0 1 ∧ (Al r s e).1.fresh = true ∧ IntKind.i64.wrap (Al r s e).1.runs = (Al r s e).1.runs := by
  obtain ⟨hv, he, hn, hw, hp, hs⟩ := YY h
  have k4 := beq_iff_eq.1 hk
  have hpb : B3 r s e = Lb r s e.ball := by unfold B3; rw [k4]; rfl
  obtain ⟨d, hd0⟩ : ∃ d, d = e.ball := ⟨_, rfl⟩
  rw [← hd0] at hpb ⊢
  rw [hpb] at hp hs
  obtain ⟨hr, hb⟩ := du hp
  obtain ⟨q1, q2, q3, q4, q5, q6⟩ := Y7 hr
  have ok := NJ.1 hv
  have rk := Ew ok.code
  have hbeg : Co s.batters = true := bn hw (by rw [k4]; rfl)
  obtain ⟨z1, z2⟩ := aE q1 hbeg
  have hin := fw ok q2
  have hout := dq (d := d) z1 z2 (fun hd => V5 q5 hd)
  obtain ⟨k1, k2, k3, k4, k5, k6, k7, k8, k9, k10⟩ := WV s d
  have hbl := fG (b := (AB r d).counts) (s := Ad s d) rk ok.code (by rw [k9, k10]; exact hin) (by rw [k8]; exact ok.io) (by rw [k7]; exact ok.complete)
  rw [k7, k8] at hbl
  obtain ⟨w1, w2⟩ := dc r (Ad s d) (AB r d).counts
  rw [hs, hb]
  have hc : AB r d = Qw r d := by unfold AB; rw [q4]; rfl
  have ht : IntKind.i64.wrap (C8 (AB r d)) = C8 (AB r d) := Gb _
  have c1 : IntKind.i64.wrap (AB r d).wides = (AB r d).wides := by rw [hc]; unfold Qw; simp only; cases d.type == 2 <;> first | rfl | exact Gb _
  have c2 : IntKind.i64.wrap (AB r d).noballs = (AB r d).noballs := by
    have := rk.noball
    rw [hc]; unfold Qw; simp only; cases d.type == 3 <;> first | rfl | exact DQ (n := r.noball) (by omega) (by omega)
  have c3 : IntKind.i64.wrap (AB r d).byes = (AB r d).byes := by rw [hc]; unfold Qw; simp only; cases (!(d.type == 2) && d.source == 2) <;> first | rfl | exact Gb _
  have c4 : IntKind.i64.wrap (AB r d).legbyes = (AB r d).legbyes := by rw [hc]; unfold Qw; simp only; cases (!(d.type == 2) && d.source == 3) <;> first | rfl | exact Gb _
  refine ⟨(Kl _ _).trans ht, (Kl _ _).trans c1, (Kl _ _).trans c2, (Kl _ _).trans c3, (Kl _ _).trans c4, ?_, ?_, ?_, hk, Gb _⟩
  · have : (Bf r (Hd r s d) (e.kind == 4)).pens = (Aj r (Ad s d) (AB r d).counts).1.pens := by
      show (cond (Aj r (Ad s d) (AB r d).counts).2 (HU (Aj r (Ad s d) (AB r d).counts).1) (Aj r (Ad s d) (AB r d).counts).1).pens = _
      cases (Aj r (Ad s d) (AB r d).counts).2 <;> rfl
    rw [this, w2, k6]
  · have e1 : (Bf r (Hd r s d) (e.kind == 4)).complete = (Aj r (Ad s d) (AB r d).counts).1.complete := by
      show (cond (Aj r (Ad s d) (AB r d).counts).2 (HU (Aj r (Ad s d) (AB r d).counts).1) (Aj r (Ad s d) (AB r d).counts).1).complete = _
      cases (Aj r (Ad s d) (AB r d).counts).2 <;> rfl
    have e2 : (Bf r (Hd r s d) (e.kind == 4)).inover = (Aj r (Ad s d) (AB r d).counts).1.inover := by
      show (cond (Aj r (Ad s d) (AB r d).counts).2 (HU (Aj r (Ad s d) (AB r d).counts).1) (Aj r (Ad s d) (AB r d).counts).1).inover = _
      cases (Aj r (Ad s d) (AB r d).counts).2 <;> rfl
    rw [e1, e2, hbl]
  · have : (Bf r (Hd r s d) (e.kind == 4)).wickets = (Aj r (Ad s d) (AB r d).counts).1.wickets := by
      show (cond (Aj r (Ad s d) (AB r d).counts).2 (HU (Aj r (Ad s d) (AB r d).counts).1) (Aj r (Ad s d) (AB r d).counts).1).wickets = _
      cases (Aj r (Ad s d) (AB r d).counts).2 <;> rfl
    rw [this, w1, hout]
    unfold inc
    cases d.how == 0 with
    | true => exact TJ _
    | false => exact (Kl s.wickets 1).trans rfl
end Go.Px
end
section
namespace Go.Px
set_option maxRecDepth 100000
def jY : Inn := ⟨0, 0, 0, 0, 0, 0, 0, 0, 0, 0, 0, 0, 0, 0, [], 0, [], [], false, [], false, 0, 0, 0, [], 0, 0, 0⟩
def lj (n : Nat) (overs side t p : Int) : Inn := ⟨side, t, overs, p, 0, 0, 0, 0, 0, p, 0, 0, 0, 0, List.replicate n [.int 0], 0, [], [], false, List.replicate n [.int 0], false, 0, 0, 0, List.replicate n [.bool false], 0, 0, 0⟩
def CL (r : Rul) (side t p : Int) : Inn × Int :=
 cond (!(BA r == 0)) (jY, BA r) (cond (!btw side 1 2 || !btw t 0 1000000 || !btw p 0 1000000) (jY, 2) (lj r.side.toNat r.overs side t p, 0))
theorem Qr {N : Nat} {r1 r2 r3 r4 r5 r6 r7 r9 r10 r11 r12 : Int} {r8 : Bool} {r0 : ByteArray} {r13 : Rows} {a : Int} {b : Int} {c : Int} (hN : 2097152 < N) (hs : r0.size ≤ 1048576) : E4 N [.str r0, .int r1, .int r2, .int r3, .int r4, .int r5, .int r6, .int r7, .bool r8, .int r9, .int r10, .int r11, .int r12, .rows r13, .int a, .int b, .int c] = some (BG (CL (⟨r0, r1, r2, r3, r4, r5, r6, r7, r8, r9, r10, r11, r12, r13⟩ : Rul) a b c)) := by
 show Hv (std (Fk N) N) (xOf _) = _
 generalize hres : (some (BG (CL (⟨r0, r1, r2, r3, r4, r5, r6, r7, r8, r9, r10, r11, r12, r13⟩ : Rul) a b c)) : Option (List PV)) = RR
 simp only [Hv, NL, Kq, std, xOf, PXb, Cx hN hs, DW]
 subst hres; simp only [CL]
 cases hc : BA (⟨r0, r1, r2, r3, r4, r5, r6, r7, r8, r9, r10, r11, r12, r13⟩ : Rul) == 0 with
 | false => rfl
 | true =>
  have rk := (Ew (beq_iff_eq.1 hc)).side
  obtain ⟨k, hk⟩ : ∃ k : Nat, r1 = k := ⟨r1.toNat, by simp only at rk; omega⟩
  subst hk
  simp only at rk
  have h1 : iSm (k : Int) 1 = true := Gz (by omega) (by omega)
  have h8 : iSm (k : Int) 8 = true := Gz (by omega) (by omega)
  simp only [PXb, PXc, PXn, PXm, Nat.reduceAdd, Int.reduceBEq, h1, h8]
  cases btw a 1 2 <;> cases btw b 0 1000000 <;> cases btw c 0 1000000 <;> rfl
theorem OX (r : Rul) (side t p : Int) : (CL r side t p).1.Fit ∧ (CL r side t p).1.before = [] ∧ (CL r side t p).1.bowlers = [] := by
 unfold CL
 cases hc : BA r == 0 with
 | false => exact ⟨⟨by show 0 ≤ 1048576; omega, by show 0 ≤ 1048576; omega, by show 0 ≤ 1048576; omega, by show 0 ≤ 1048576; omega, by show 0 ≤ 1048576; omega⟩, rfl, rfl⟩
 | true =>
  have hs := (Ew (beq_iff_eq.1 hc)).side
  have hl : ∀ x : List PV, (List.replicate r.side.toNat x).length ≤ 1048576 := fun x => by rw [List.length_replicate]; omega
  cases (!btw side 1 2 || !btw t 0 1000000 || !btw p 0 1000000) with
  | true => exact ⟨⟨by show 0 ≤ 1048576; omega, by show 0 ≤ 1048576; omega, by show 0 ≤ 1048576; omega, by show 0 ≤ 1048576; omega, by show 0 ≤ 1048576; omega⟩, rfl, rfl⟩
  | false => exact ⟨⟨hl _, by show 0 ≤ 1048576; omega, by show 0 ≤ 1048576; omega, hl _, hl _⟩, rfl, rfl⟩
theorem jv {s : Inn} (h : s.Fit) : (N0 s).Fit := ⟨h.bt, h.bw, h.bf, h.bd, h.sb⟩
end Go.Px
end
section
namespace Go.Px
set_option maxRecDepth 100000
structure BatOk (L : Rows) (s n wk : Int) : Prop where
 le : ∀ i, i < L.length → atI L i 0 ≤ 3
 at1 : ∀ i, i < L.length → (atI L i 0 = 1 ↔ (s = (i : Int) + 1 ∨ n = (i : Int) + 1))
 here : Co L = true → s ≠ 0 ∨ n ≠ 0
 ne : s ≠ 0 → s ≠ n
 wk : wk = Wg L
end Go.Px
end
section
namespace Go.Px
set_option maxRecDepth 100000
theorem kZ {r : Rul} {s : Inn} (h : InnOk r s) : 2 ≤ r.side ∧ r.side ≤ 11 := (Ew h.code).side
end Go.Px
end
section
namespace Go.Px
set_option maxRecDepth 100000
structure Small (s : Inn) : Prop where
 target : s.target ≤ 999999900
 runs : s.runs ≤ 999999900
 wides : s.wides ≤ 999999900
 noballs : s.noballs ≤ 999999900
 byes : s.byes ≤ 999999900
 legbyes : s.legbyes ≤ 999999900
 pens : s.pens ≤ 999999900
 complete : s.complete ≤ 999999900
 ballage : s.ballage ≤ 999999900
 rev1 : s.rev1 ≤ 999999900
 rev2 : s.rev2 ≤ 999999900
 bowled : ∀ j, j < s.bowled.length → atI s.bowled j 0 ≤ 999999900
end Go.Px
end
