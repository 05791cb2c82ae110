/- Part 10. -/
import Derived.Test.YtmpgkalgfmnpjaaGreatPart09
set_option linter.unusedVariables false
set_option linter.unusedSimpArgs false
section
namespace Go.Px
set_option maxRecDepth 100000
structure Lens (s t : Inn) : Prop where
 bt : t.batters.length = s.batters.length
 bd : t.bowled.length = s.bowled.length
 sb : t.subs.length = s.subs.length
 bw : t.bowlers.length ≤ s.bowlers.length + 1
 bf : t.before.length ≤ s.before.length + s.bowlers.length + 1
theorem Lens.refl (s : Inn) : Lens s s := ⟨rfl, rfl, rfl, by omega, by omega⟩
theorem P_c {α : Type} {P : α → Prop} (b : Bool) (x y : α) (hx : P x) (hy : P y) : P (cond b x y) := by cases b <;> assumption
theorem dK (s : Inn) (d : Del) : Lens s (Ae s d) := by
 have hb : ∀ (b : Bool), (cond b (Mo s.batters s.striker 2) s.batters).length = s.batters.length := fun b => by cases b <;> simp [KR]
 have hc : ∀ (b : Bool), (cond b (Mo s.batters s.other 2) s.batters).length = s.batters.length := fun b => by cases b <;> simp [KR]
 unfold Ae
 cases (!(d.runs.tmod 2 == 0) != d.crossed) <;> refine P_c _ _ _ ⟨hb _, rfl, rfl, ?_, ?_⟩ (P_c _ _ _ ⟨hc _, rfl, rfl, ?_, ?_⟩ ⟨rfl, rfl, rfl, ?_, ?_⟩) <;> simp <;> omega
theorem Zk (r : Rul) (s : Inn) (c : Bool) : Lens s (Ai r s c).1 := by
 have hl : (cond (JU s.bowlers s.bowlers.length s.bowler) s.bowlers (s.bowlers ++ [[.int s.bowler]])).length ≤ s.bowlers.length + 1 := by
  cases JU s.bowlers s.bowlers.length s.bowler <;> simp
 have hd : (cond c (Mo s.bowled s.bowler (inc (atI s.bowled (ix s.bowler) 0))) s.bowled).length = s.bowled.length := by cases c <;> simp [KR]
 unfold Ai
 refine P_c (P := fun x : Inn × Bool => Lens s x.1) _ _ _ (Lens.refl s) (P_c (P := fun x : Inn × Bool => Lens s x.1) _ _ _ ⟨rfl, hd, rfl, hl, by simp; omega⟩ ⟨rfl, hd, rfl, by simp, ?_⟩)
 simp only
 omega
def Xn (a b c d : Int) : Int := cond (!(a == 0)) a (cond (!(b == 0)) b (cond (!(c == 0)) c (cond (!(d == 0)) d 0)))
def Hf (r : Rul) (s : Inn) (d : Del) : Int :=
 cond (GX s.batters s.striker s.other) 6 (cond (s.bowler == 0) 7 (Xn (Pl r s) (Fe d) (O2 d s.freehit) (QP s d)))
theorem WC {N : Nat} {r1 r2 r3 r4 r5 r6 r7 r9 r10 r11 r12 : Int} {r8 : Bool} {r0 : ByteArray} {r13 : Rows} {s0 s1 s2 s3 s4 s5 s6 s7 s8 s9 s10 s11 s12 s13 s15 s21 s22 s23 s25 s26 s27 : Int} {s18 s20 : Bool} {s14 s16 s17 s19 s24 : Rows} {d0 d1 d2 d3 d4 d6 d7 d8 d9 d11 : Int} {d5 d10 : Bool} (h : Fit s14 s16 s17 s19 s24) (hN : 2097152 < N) (h13 : r13.length ≤ 1048576) : Dv N [.str r0, .int r1, .int r2, .int r3, .int r4, .int r5, .int r6, .int r7, .bool r8, .int r9, .int r10, .int r11, .int r12, .rows r13, .int s0, .int s1, .int s2, .int s3, .int s4, .int s5, .int s6, .int s7, .int s8, .int s9, .int s10, .int s11, .int s12, .int s13, .rows s14, .int s15, .rows s16, .rows s17, .bool s18, .rows s19, .bool s20, .int s21, .int s22, .int s23, .rows s24, .int s25, .int s26, .int s27, .int d0, .int d1, .int d2, .int d3, .int d4, .bool d5, .int d6, .int d7, .int d8, .int d9, .bool d10, .int d11] = some [.int (Hf (⟨r0, r1, r2, r3, r4, r5, r6, r7, r8, r9, r10, r11, r12, r13⟩ : Rul) (⟨s0, s1, s2, s3, s4, s5, s6, s7, s8, s9, s10, s11, s12, s13, s14, s15, s16, s17, s18, s19, s20, s21, s22, s23, s24, s25, s26, s27⟩ : Inn) (⟨d0, d1, d2, d3, d4, d5, d6, d7, d8, d9, d10, d11⟩ : Del))] := by
 show Fx (std (B2 N) N) (xOf _) = _
 generalize hres : (some [.int (Hf (⟨r0, r1, r2, r3, r4, r5, r6, r7, r8, r9, r10, r11, r12, r13⟩ : Rul) (⟨s0, s1, s2, s3, s4, s5, s6, s7, s8, s9, s10, s11, s12, s13, s14, s15, s16, s17, s18, s19, s20, s21, s22, s23, s24, s25, s26, s27⟩ : Inn) (⟨d0, d1, d2, d3, d4, d5, d6, d7, d8, d9, d10, d11⟩ : Del))] : Option (List PV)) = RR
 simp only [Fx, Kb, LA, ML, II, MN, std, xOf, PXb, Qk h.bt hN, aG h hN h13, Pj, TP hN, aN h]
 subst hres; simp only [Hf]
 cases GX s14 s12 s13 <;> try rfl
 cases s15 == 0 <;> try rfl
 simp only [PXb]
 generalize Pl (⟨r0, r1, r2, r3, r4, r5, r6, r7, r8, r9, r10, r11, r12, r13⟩ : Rul) (⟨s0, s1, s2, s3, s4, s5, s6, s7, s8, s9, s10, s11, s12, s13, s14, s15, s16, s17, s18, s19, s20, s21, s22, s23, s24, s25, s26, s27⟩ : Inn) = a
 generalize Fe (⟨d0, d1, d2, d3, d4, d5, d6, d7, d8, d9, d10, d11⟩ : Del) = b
 generalize O2 (⟨d0, d1, d2, d3, d4, d5, d6, d7, d8, d9, d10, d11⟩ : Del) s20 = c
 generalize QP (⟨s0, s1, s2, s3, s4, s5, s6, s7, s8, s9, s10, s11, s12, s13, s14, s15, s16, s17, s18, s19, s20, s21, s22, s23, s24, s25, s26, s27⟩ : Inn) (⟨d0, d1, d2, d3, d4, d5, d6, d7, d8, d9, d10, d11⟩ : Del) = e
 refine AX (CP (len := 4) (fun i => cond (!(atI [[.int a], [.int b], [.int c], [.int e]] i 0 == 0)) (some [.int (atI [[.int a], [.int b], [.int c], [.int e]] i 0)]) none) ?_ ?_ 4 0 N (by omega) (by omega)) ?_
 ·intro self
  rfl
 ·intro i self hi
  simp only [PXb, Aq (show i ≤ 1099511627776 by omega), List.length_cons, List.length_nil, Nat.reduceAdd, A1 hi, Aa hi, CD]
  cases atI [[.int a], [.int b], [.int c], [.int e]] i 0 == 0 <;> rfl
 ·refine (YC _).trans (congrArg (fun z => some [PV.int z]) ?_)
  unfold Xn
  simp only [BA]
  rw [show atI [[.int a], [.int b], [.int c], [.int e]] 0 0 = a from rfl, show atI [[.int a], [.int b], [.int c], [.int e]] (0 + 1) 0 = b from rfl, show atI [[.int a], [.int b], [.int c], [.int e]] (0 + 1 + 1) 0 = c from rfl, show atI [[.int a], [.int b], [.int c], [.int e]] (0 + 1 + 1 + 1) 0 = e from rfl]
  cases a == 0 <;> try rfl
  cases b == 0 <;> try rfl
  cases c == 0 <;> try rfl
  cases e == 0 <;> rfl
theorem Pi {s t : Inn} (l : Lens s t) (h : s.Fit) (hw : s.before.length + s.bowlers.length ≤ 1048575) : t.Fit := ⟨l.bt ▸ h.bt, by have := l.bw; omega, by have := l.bf; omega, l.bd ▸ h.bd, l.sb ▸ h.sb⟩
theorem gt (s : Inn) (d : Del) : (Ae s d).bowlers = s.bowlers := by
 unfold Ae
 cases (!(d.runs.tmod 2 == 0) != d.crossed) <;> exact P_c (P := fun x : Inn => x.bowlers = s.bowlers) _ _ _ rfl (P_c (P := fun x : Inn => x.bowlers = s.bowlers) _ _ _ rfl rfl)
theorem hY (s : Inn) (d : Del) : (Ae s d).before = s.before := by
 unfold Ae
 cases (!(d.runs.tmod 2 == 0) != d.crossed) <;> exact P_c (P := fun x : Inn => x.before = s.before) _ _ _ rfl (P_c (P := fun x : Inn => x.before = s.before) _ _ _ rfl rfl)
@[reducible] def VZ (t : Inn) (a b e f g : Int) : Inn := ⟨t.side, t.target, t.overs, a, t.wickets, b, e, f, g, t.pens, t.complete, t.inover, t.striker, t.other, t.batters, t.bowler, t.bowlers, t.before, t.fresh, t.bowled, t.freehit, t.ballage, t.keeper, t.outside, t.subs, t.rev1, t.rev2, t.ending⟩
def LL (r : Rul) (s : Inn) (d : Del) : Inn × Int :=
  cond (!(Hf r s d == 0)) (s, Hf r s d)
    (let c := AB r d
     let t := Ae s d
     let o := Ai r (VZ t (IntKind.i64.wrap (t.runs + C9 c)) (IntKind.i64.wrap (t.wides + c.wides)) (IntKind.i64.wrap (t.noballs + c.noballs)) (IntKind.i64.wrap (t.byes + c.byes)) (IntKind.i64.wrap (t.legbyes + c.legbyes))) c.counts
     let t : Inn := cond o.2 (Ha o.1) o.1
     ({ t with freehit := cond (d.type == 1) false (cond (d.type == 3 && r.freehit) true o.1.freehit) }, 0))
theorem Za {N : Nat} {r1 r2 r3 r4 r5 r6 r7 r9 r10 r11 r12 : Int} {r8 : Bool} {r0 : ByteArray} {r13 : Rows} {s0 s1 s2 s3 s4 s5 s6 s7 s8 s9 s10 s11 s12 s13 s15 s21 s22 s23 s25 s26 s27 : Int} {s18 s20 : Bool} {s14 s16 s17 s19 s24 : Rows} {d0 d1 d2 d3 d4 d6 d7 d8 d9 d11 : Int} {d5 d10 : Bool} (h : Fit s14 s16 s17 s19 s24) (hw : s17.length + s16.length ≤ 1000000) (hN : 2097152 < N) (hs : r0.size ≤ 1048576) (h13 : r13.length ≤ 1048576) : GY N [.str r0, .int r1, .int r2, .int r3, .int r4, .int r5, .int r6, .int r7, .bool r8, .int r9, .int r10, .int r11, .int r12, .rows r13, .int s0, .int s1, .int s2, .int s3, .int s4, .int s5, .int s6, .int s7, .int s8, .int s9, .int s10, .int s11, .int s12, .int s13, .rows s14, .int s15, .rows s16, .rows s17, .bool s18, .rows s19, .bool s20, .int s21, .int s22, .int s23, .rows s24, .int s25, .int s26, .int s27, .int d0, .int d1, .int d2, .int d3, .int d4, .bool d5, .int d6, .int d7, .int d8, .int d9, .bool d10, .int d11] = some (BK (LL (⟨r0, r1, r2, r3, r4, r5, r6, r7, r8, r9, r10, r11, r12, r13⟩ : Rul) (⟨s0, s1, s2, s3, s4, s5, s6, s7, s8, s9, s10, s11, s12, s13, s14, s15, s16, s17, s18, s19, s20, s21, s22, s23, s24, s25, s26, s27⟩ : Inn) (⟨d0, d1, d2, d3, d4, d5, d6, d7, d8, d9, d10, d11⟩ : Del))) := by
 show I5 (std (Bk N) N) (xOf _) = _
 generalize hres : (some (BK (LL (⟨r0, r1, r2, r3, r4, r5, r6, r7, r8, r9, r10, r11, r12, r13⟩ : Rul) (⟨s0, s1, s2, s3, s4, s5, s6, s7, s8, s9, s10, s11, s12, s13, s14, s15, s16, s17, s18, s19, s20, s21, s22, s23, s24, s25, s26, s27⟩ : Inn) (⟨d0, d1, d2, d3, d4, d5, d6, d7, d8, d9, d10, d11⟩ : Del))) : Option (List PV)) = RR
 have l1 := dK (⟨s0, s1, s2, s3, s4, s5, s6, s7, s8, s9, s10, s11, s12, s13, s14, s15, s16, s17, s18, s19, s20, s21, s22, s23, s24, s25, s26, s27⟩ : Inn) (⟨d0, d1, d2, d3, d4, d5, d6, d7, d8, d9, d10, d11⟩ : Del)
 have f1 := Pi l1 h (by simp only; omega)
 have w1 : (Ae (⟨s0, s1, s2, s3, s4, s5, s6, s7, s8, s9, s10, s11, s12, s13, s14, s15, s16, s17, s18, s19, s20, s21, s22, s23, s24, s25, s26, s27⟩ : Inn) (⟨d0, d1, d2, d3, d4, d5, d6, d7, d8, d9, d10, d11⟩ : Del)).bowlers.length = s16.length := congrArg List.length (gt _ _)
 have w2 : (Ae (⟨s0, s1, s2, s3, s4, s5, s6, s7, s8, s9, s10, s11, s12, s13, s14, s15, s16, s17, s18, s19, s20, s21, s22, s23, s24, s25, s26, s27⟩ : Inn) (⟨d0, d1, d2, d3, d4, d5, d6, d7, d8, d9, d10, d11⟩ : Del)).before.length = s17.length := congrArg List.length (hY _ _)
 have l2 := fun (x : Rul) (c : Bool) (a b e f g : Int) => Zk x (VZ (Ae (⟨s0, s1, s2, s3, s4, s5, s6, s7, s8, s9, s10, s11, s12, s13, s14, s15, s16, s17, s18, s19, s20, s21, s22, s23, s24, s25, s26, s27⟩ : Inn) (⟨d0, d1, d2, d3, d4, d5, d6, d7, d8, d9, d10, d11⟩ : Del)) a b e f g) c
 have f2 := fun (x : Rul) (c : Bool) (a b e f g : Int) => Pi (l2 x c a b e f g) f1 (show (Ae (⟨s0, s1, s2, s3, s4, s5, s6, s7, s8, s9, s10, s11, s12, s13, s14, s15, s16, s17, s18, s19, s20, s21, s22, s23, s24, s25, s26, s27⟩ : Inn) (⟨d0, d1, d2, d3, d4, d5, d6, d7, d8, d9, d10, d11⟩ : Del)).before.length + (Ae (⟨s0, s1, s2, s3, s4, s5, s6, s7, s8, s9, s10, s11, s12, s13, s14, s15, s16, s17, s18, s19, s20, s21, s22, s23, s24, s25, s26, s27⟩ : Inn) (⟨d0, d1, d2, d3, d4, d5, d6, d7, d8, d9, d10, d11⟩ : Del)).bowlers.length ≤ 1048575 by omega)
 simp only [I5, LN, MH, My, LI, O5, PE, Mx, std, xOf, PXb, PXc, PXn, PXm, Nat.reduceAdd, Int.reduceBEq, WC h hN h13, B3 h, Ft, cF h, Py, Cre.ls, bT f1 (show (Ae (⟨s0, s1, s2, s3, s4, s5, s6, s7, s8, s9, s10, s11, s12, s13, s14, s15, s16, s17, s18, s19, s20, s21, s22, s23, s24, s25, s26, s27⟩ : Inn) (⟨d0, d1, d2, d3, d4, d5, d6, d7, d8, d9, d10, d11⟩ : Del)).bowlers.length ≤ 1048575 by omega) hN hs, jw, Yb (f2 _ _ _ _ _ _ _)]
 subst hres; simp only [LL, VZ]
 cases Hf (⟨r0, r1, r2, r3, r4, r5, r6, r7, r8, r9, r10, r11, r12, r13⟩ : Rul) (⟨s0, s1, s2, s3, s4, s5, s6, s7, s8, s9, s10, s11, s12, s13, s14, s15, s16, s17, s18, s19, s20, s21, s22, s23, s24, s25, s26, s27⟩ : Inn) (⟨d0, d1, d2, d3, d4, d5, d6, d7, d8, d9, d10, d11⟩ : Del) == 0 with
 | false => rfl
 | true =>
  obtain ⟨o, ho⟩ : ∃ o, o = Ai (⟨r0, r1, r2, r3, r4, r5, r6, r7, r8, r9, r10, r11, r12, r13⟩ : Rul) (VZ (Ae (⟨s0, s1, s2, s3, s4, s5, s6, s7, s8, s9, s10, s11, s12, s13, s14, s15, s16, s17, s18, s19, s20, s21, s22, s23, s24, s25, s26, s27⟩ : Inn) (⟨d0, d1, d2, d3, d4, d5, d6, d7, d8, d9, d10, d11⟩ : Del)) (IntKind.i64.wrap ((Ae (⟨s0, s1, s2, s3, s4, s5, s6, s7, s8, s9, s10, s11, s12, s13, s14, s15, s16, s17, s18, s19, s20, s21, s22, s23, s24, s25, s26, s27⟩ : Inn) (⟨d0, d1, d2, d3, d4, d5, d6, d7, d8, d9, d10, d11⟩ : Del)).runs + C9 (AB (⟨r0, r1, r2, r3, r4, r5, r6, r7, r8, r9, r10, r11, r12, r13⟩ : Rul) (⟨d0, d1, d2, d3, d4, d5, d6, d7, d8, d9, d10, d11⟩ : Del)))) (IntKind.i64.wrap ((Ae (⟨s0, s1, s2, s3, s4, s5, s6, s7, s8, s9, s10, s11, s12, s13, s14, s15, s16, s17, s18, s19, s20, s21, s22, s23, s24, s25, s26, s27⟩ : Inn) (⟨d0, d1, d2, d3, d4, d5, d6, d7, d8, d9, d10, d11⟩ : Del)).wides + (AB (⟨r0, r1, r2, r3, r4, r5, r6, r7, r8, r9, r10, r11, r12, r13⟩ : Rul) (⟨d0, d1, d2, d3, d4, d5, d6, d7, d8, d9, d10, d11⟩ : Del)).wides)) (IntKind.i64.wrap ((Ae (⟨s0, s1, s2, s3, s4, s5, s6, s7, s8, s9, s10, s11, s12, s13, s14, s15, s16, s17, s18, s19, s20, s21, s22, s23, s24, s25, s26, s27⟩ : Inn) (⟨d0, d1, d2, d3, d4, d5, d6, d7, d8, d9, d10, d11⟩ : Del)).noballs + (AB (⟨r0, r1, r2, r3, r4, r5, r6, r7, r8, r9, r10, r11, r12, r13⟩ : Rul) (⟨d0, d1, d2, d3, d4, d5, d6, d7, d8, d9, d10, d11⟩ : Del)).noballs)) (IntKind.i64.wrap ((Ae (⟨s0, s1, s2, s3, s4, s5, s6, s7, s8, s9, s10, s11, s12, s13, s14, s15, s16, s17, s18, s19, s20, s21, s22, s23, s24, s25, s26, s27⟩ : Inn) (⟨d0, d1, d2, d3, d4, d5, d6, d7, d8, d9, d10, d11⟩ : Del)).byes + (AB (⟨r0, r1, r2, r3, r4, r5, r6, r7, r8, r9, r10, r11, r12, r13⟩ : Rul) (⟨d0, d1, d2, d3, d4, d5, d6, d7, d8, d9, d10, d11⟩ : Del)).byes)) (IntKind.i64.wrap ((Ae (⟨s0, s1, s2, s3, s4, s5, s6, s7, s8, s9, s10, s11, s12, s13, s14, s15, s16, s17, s18, s19, s20, s21, s22, s23, s24, s25, s26, s27⟩ : Inn) (⟨d0, d1, d2, d3, d4, d5, d6, d7, d8, d9, d10, d11⟩ : Del)).legbyes + (AB (⟨r0, r1, r2, r3, r4, r5, r6, r7, r8, r9, r10, r11, r12, r13⟩ : Rul) (⟨d0, d1, d2, d3, d4, d5, d6, d7, d8, d9, d10, d11⟩ : Del)).legbyes))) (AB (⟨r0, r1, r2, r3, r4, r5, r6, r7, r8, r9, r10, r11, r12, r13⟩ : Rul) (⟨d0, d1, d2, d3, d4, d5, d6, d7, d8, d9, d10, d11⟩ : Del)).counts := ⟨_, rfl⟩
  simp only [VZ, C9] at ho ⊢
  simp only [← ho]
  obtain ⟨o1, o2⟩ := o
  cases o2 <;> cases d0 == 1 <;> cases d0 == 3 <;> cases r8 <;> rfl
theorem dL (r : Rul) (s : Inn) (b : Bool) (a c d e f : Int) : Ai r (VZ s a c d e f) b = (VZ (Ai r s b).1 a c d e f, (Ai r s b).2) := by
 unfold Ai VZ
 simp only
 cases (!inR s.bowler s.bowled.length || !(BD r == 0)) with
 | true => rfl
 | false =>
  simp only [cond_false]
  cases iLt (cond b (inc s.inover) s.inover) r.balls <;> rfl
def Kg (r : Rul) (s : Inn) (side : Int) : Inn × Int := cond (!(side == s.side)) (s, 2) (cond (!(r.overs == 0)) (s, 20) ({ s with ending := 4 }, 0))
theorem V4 {N : Nat} {r1 r2 r3 r4 r5 r6 r7 r9 r10 r11 r12 : Int} {r8 : Bool} {r0 : ByteArray} {r13 : Rows} {s0 s1 s2 s3 s4 s5 s6 s7 s8 s9 s10 s11 s12 s13 s15 s21 s22 s23 s25 s26 s27 : Int} {s18 s20 : Bool} {s14 s16 s17 s19 s24 : Rows} {e0 e1 e2 e3 e5 e6 e7 e8 e9 e10 e11 e13 e14 e15 e16 e18 : Int} {e4 e12 e17 : Bool} (h : Fit s14 s16 s17 s19 s24) : D5 N [.str r0, .int r1, .int r2, .int r3, .int r4, .int r5, .int r6, .int r7, .bool r8, .int r9, .int r10, .int r11, .int r12, .rows r13, .int s0, .int s1, .int s2, .int s3, .int s4, .int s5, .int s6, .int s7, .int s8, .int s9, .int s10, .int s11, .int s12, .int s13, .rows s14, .int s15, .rows s16, .rows s17, .bool s18, .rows s19, .bool s20, .int s21, .int s22, .int s23, .rows s24, .int s25, .int s26, .int s27, .int e0, .int e1, .int e2, .int e3, .bool e4, .int e5, .int e6, .int e7, .int e8, .int e9, .int e10, .int e11, .bool e12, .int e13, .int e14, .int e15, .int e16, .bool e17, .int e18] = some (BK (Kg (⟨r0, r1, r2, r3, r4, r5, r6, r7, r8, r9, r10, r11, r12, r13⟩ : Rul) (⟨s0, s1, s2, s3, s4, s5, s6, s7, s8, s9, s10, s11, s12, s13, s14, s15, s16, s17, s18, s19, s20, s21, s22, s23, s24, s25, s26, s27⟩ : Inn) e1)) := by
 show F4 (std (Ho N) N) (xOf _) = _
 generalize hres : (some (BK (Kg (⟨r0, r1, r2, r3, r4, r5, r6, r7, r8, r9, r10, r11, r12, r13⟩ : Rul) (⟨s0, s1, s2, s3, s4, s5, s6, s7, s8, s9, s10, s11, s12, s13, s14, s15, s16, s17, s18, s19, s20, s21, s22, s23, s24, s25, s26, s27⟩ : Inn) e1)) : Option (List PV)) = RR
 simp only [F4, LB, std, xOf, PXb, PXc, PXn, PXm, Nat.reduceAdd, Int.reduceBEq, B3 h]
 subst hres; simp only [Kg]
 cases e1 == s0 <;> cases r3 == 0 <;> rfl
def OS (s : Inn) : Inn := { s with runs := IntKind.i64.wrap (s.runs + 5), pens := IntKind.i64.wrap (s.pens + 5) }
theorem Ot {N : Nat} {s0 s1 s2 s3 s4 s5 s6 s7 s8 s9 s10 s11 s12 s13 s15 s21 s22 s23 s25 s26 s27 : Int} {s18 s20 : Bool} {s14 s16 s17 s19 s24 : Rows} (h : Fit s14 s16 s17 s19 s24) : B0 N [.int s0, .int s1, .int s2, .int s3, .int s4, .int s5, .int s6, .int s7, .int s8, .int s9, .int s10, .int s11, .int s12, .int s13, .rows s14, .int s15, .rows s16, .rows s17, .bool s18, .rows s19, .bool s20, .int s21, .int s22, .int s23, .rows s24, .int s25, .int s26, .int s27] = some (OS (⟨s0, s1, s2, s3, s4, s5, s6, s7, s8, s9, s10, s11, s12, s13, s14, s15, s16, s17, s18, s19, s20, s21, s22, s23, s24, s25, s26, s27⟩ : Inn)).ls := by
 show F1 (std (Hi N) N) (xOf _) = _
 generalize hres : (some (OS (⟨s0, s1, s2, s3, s4, s5, s6, s7, s8, s9, s10, s11, s12, s13, s14, s15, s16, s17, s18, s19, s20, s21, s22, s23, s24, s25, s26, s27⟩ : Inn)).ls : Option (List PV)) = RR
 simp only [F1, K3, std, xOf, PXb, PXc, PXn, PXm, Nat.reduceAdd, Int.reduceBEq, B3 h]
 subst hres; simp only [OS]
 rfl
def G9 (s : Inn) (side runs : Int) : Inn × Int :=
 cond (!(runs == 5)) (s, 23) (cond (side == s.side) (OS s, 0) ({ s with target := cond (iLt 0 s.target) (IntKind.i64.wrap (s.target + 5)) s.target }, 0))
theorem Vz {N : Nat} {s0 s1 s2 s3 s4 s5 s6 s7 s8 s9 s10 s11 s12 s13 s15 s21 s22 s23 s25 s26 s27 : Int} {s18 s20 : Bool} {s14 s16 s17 s19 s24 : Rows} {e0 e1 e2 e3 e5 e6 e7 e8 e9 e10 e11 e13 e14 e15 e16 e18 : Int} {e4 e12 e17 : Bool} (h : Fit s14 s16 s17 s19 s24) : Dw N [.int s0, .int s1, .int s2, .int s3, .int s4, .int s5, .int s6, .int s7, .int s8, .int s9, .int s10, .int s11, .int s12, .int s13, .rows s14, .int s15, .rows s16, .rows s17, .bool s18, .rows s19, .bool s20, .int s21, .int s22, .int s23, .rows s24, .int s25, .int s26, .int s27, .int e0, .int e1, .int e2, .int e3, .bool e4, .int e5, .int e6, .int e7, .int e8, .int e9, .int e10, .int e11, .bool e12, .int e13, .int e14, .int e15, .int e16, .bool e17, .int e18] = some (BK (G9 (⟨s0, s1, s2, s3, s4, s5, s6, s7, s8, s9, s10, s11, s12, s13, s14, s15, s16, s17, s18, s19, s20, s21, s22, s23, s24, s25, s26, s27⟩ : Inn) e1 e5)) := by
 show Fz (std (El N) N) (xOf _) = _
 generalize hres : (some (BK (G9 (⟨s0, s1, s2, s3, s4, s5, s6, s7, s8, s9, s10, s11, s12, s13, s14, s15, s16, s17, s18, s19, s20, s21, s22, s23, s24, s25, s26, s27⟩ : Inn) e1 e5)) : Option (List PV)) = RR
 simp only [Fz, K8, Jw, std, xOf, PXb, PXc, PXn, PXm, Nat.reduceAdd, Int.reduceBEq, B3 h, Ot h]
 subst hres; simp only [G9]
 cases e5 == 5 <;> cases e1 == s0 <;> cases iLt 0 s1 <;> rfl
def Kp (r : Rul) (s : Inn) (side : Int) (yes : Bool) : Inn × Int :=
 cond (!s.fresh || iLe r.reviews (cond (side == 2) s.rev2 s.rev1)) (s, 24) (cond (!yes) ({ s with rev1 := cond (side == 1) (inc s.rev1) s.rev1, rev2 := cond (side == 2) (inc s.rev2) s.rev2 }, 0) (s, 0))
theorem wr1 : IntKind.i64.wrap (1 - 1) = 0 := rfl
theorem wr2 : IntKind.i64.wrap (2 - 1) = 1 := rfl
theorem dZ : iIn 0 2 = true := rfl
theorem bR : iIn 1 2 = true := rfl
theorem Wx {N : Nat} {r1 r2 r3 r4 r5 r6 r7 r9 r10 r11 r12 : Int} {r8 : Bool} {r0 : ByteArray} {r13 : Rows} {s0 s1 s2 s3 s4 s5 s6 s7 s8 s9 s10 s11 s12 s13 s15 s21 s22 s23 s25 s26 s27 : Int} {s18 s20 : Bool} {s14 s16 s17 s19 s24 : Rows} {e0 e1 e2 e3 e5 e6 e7 e8 e9 e10 e11 e13 e14 e15 e16 e18 : Int} {e4 e12 e17 : Bool} (h : Fit s14 s16 s17 s19 s24) (he : e1 = 1 ∨ e1 = 2) : EW N [.str r0, .int r1, .int r2, .int r3, .int r4, .int r5, .int r6, .int r7, .bool r8, .int r9, .int r10, .int r11, .int r12, .rows r13, .int s0, .int s1, .int s2, .int s3, .int s4, .int s5, .int s6, .int s7, .int s8, .int s9, .int s10, .int s11, .int s12, .int s13, .rows s14, .int s15, .rows s16, .rows s17, .bool s18, .rows s19, .bool s20, .int s21, .int s22, .int s23, .rows s24, .int s25, .int s26, .int s27, .int e0, .int e1, .int e2, .int e3, .bool e4, .int e5, .int e6, .int e7, .int e8, .int e9, .int e10, .int e11, .bool e12, .int e13, .int e14, .int e15, .int e16, .bool e17, .int e18] = some (BK (Kp (⟨r0, r1, r2, r3, r4, r5, r6, r7, r8, r9, r10, r11, r12, r13⟩ : Rul) (⟨s0, s1, s2, s3, s4, s5, s6, s7, s8, s9, s10, s11, s12, s13, s14, s15, s16, s17, s18, s19, s20, s21, s22, s23, s24, s25, s26, s27⟩ : Inn) e1 e4)) := by
 show EY (std (IR N) N) (xOf _) = _
 generalize hres : (some (BK (Kp (⟨r0, r1, r2, r3, r4, r5, r6, r7, r8, r9, r10, r11, r12, r13⟩ : Rul) (⟨s0, s1, s2, s3, s4, s5, s6, s7, s8, s9, s10, s11, s12, s13, s14, s15, s16, s17, s18, s19, s20, s21, s22, s23, s24, s25, s26, s27⟩ : Inn) e1 e4)) : Option (List PV)) = RR
 rcases he with he | he <;> subst he
 ·simp only [EY, Fk, std, xOf, PXb, PXc, PXn, PXm, Nat.reduceAdd, Int.reduceBEq, B3 h, wr1, wr2, dZ, bR]
  subst hres; simp only [Kp, Int.reduceBEq, beq_self_eq_true, cond_true, cond_false]
  cases s18 <;> cases e4 <;> first | rfl | (cases iLe r11 s25 <;> rfl)
 ·simp only [EY, Fk, std, xOf, PXb, PXc, PXn, PXm, Nat.reduceAdd, Int.reduceBEq, B3 h, wr1, wr2, dZ, bR]
  subst hres; simp only [Kp, Int.reduceBEq, beq_self_eq_true, cond_true, cond_false]
  cases s18 <;> cases e4 <;> first | rfl | (cases iLe r11 s26 <;> rfl)
theorem Qy {N : Nat} {r1 r2 r3 r4 r5 r6 r7 r9 r10 r11 r12 : Int} {r8 : Bool} {r0 : ByteArray} {r13 : Rows} {s0 s1 s2 s3 s4 s5 s6 s7 s8 s9 s10 s11 s12 s13 s15 s21 s22 s23 s25 s26 s27 : Int} {s18 s20 : Bool} {s14 s16 s17 s19 s24 : Rows}  : CO N [.str r0, .int r1, .int r2, .int r3, .int r4, .int r5, .int r6, .int r7, .bool r8, .int r9, .int r10, .int r11, .int r12, .rows r13, .int s0, .int s1, .int s2, .int s3, .int s4, .int s5, .int s6, .int s7, .int s8, .int s9, .int s10, .int s11, .int s12, .int s13, .rows s14, .int s15, .rows s16, .rows s17, .bool s18, .rows s19, .bool s20, .int s21, .int s22, .int s23, .rows s24, .int s25, .int s26, .int s27] = some [.int (CG r4 s10 s11)] := by
 rfl
def Mc (r : Rul) (s : Inn) (runs overs : Int) : Inn × Int :=
  cond (r.overs == 0 || (runs == 0 && overs == 0)) (s, 25) (cond (iLt 0 runs && (s.target == 0 || iLe runs s.runs)) (s, 25)
    (cond (iLt 0 overs && (iLt r.overs overs || iLt (IntKind.i64.wrap (overs * r.balls)) (CG r.balls s.complete s.inover))) (s, 25)
      ({ s with target := cond (iLt 0 runs) runs s.target, overs := cond (iLt 0 overs) overs s.overs }, 0)))
theorem XK {N : Nat} {r1 r2 r3 r4 r5 r6 r7 r9 r10 r11 r12 : Int} {r8 : Bool} {r0 : ByteArray} {r13 : Rows} {s0 s1 s2 s3 s4 s5 s6 s7 s8 s9 s10 s11 s12 s13 s15 s21 s22 s23 s25 s26 s27 : Int} {s18 s20 : Bool} {s14 s16 s17 s19 s24 : Rows} {e0 e1 e2 e3 e5 e6 e7 e8 e9 e10 e11 e13 e14 e15 e16 e18 : Int} {e4 e12 e17 : Bool} (h : Fit s14 s16 s17 s19 s24) : EU N [.str r0, .int r1, .int r2, .int r3, .int r4, .int r5, .int r6, .int r7, .bool r8, .int r9, .int r10, .int r11, .int r12, .rows r13, .int s0, .int s1, .int s2, .int s3, .int s4, .int s5, .int s6, .int s7, .int s8, .int s9, .int s10, .int s11, .int s12, .int s13, .rows s14, .int s15, .rows s16, .rows s17, .bool s18, .rows s19, .bool s20, .int s21, .int s22, .int s23, .rows s24, .int s25, .int s26, .int s27, .int e0, .int e1, .int e2, .int e3, .bool e4, .int e5, .int e6, .int e7, .int e8, .int e9, .int e10, .int e11, .bool e12, .int e13, .int e14, .int e15, .int e16, .bool e17, .int e18] = some (BK (Mc (⟨r0, r1, r2, r3, r4, r5, r6, r7, r8, r9, r10, r11, r12, r13⟩ : Rul) (⟨s0, s1, s2, s3, s4, s5, s6, s7, s8, s9, s10, s11, s12, s13, s14, s15, s16, s17, s18, s19, s20, s21, s22, s23, s24, s25, s26, s27⟩ : Inn) e5 e6)) := by
 show G4 (std (FT N) N) (xOf _) = _
 generalize hres : (some (BK (Mc (⟨r0, r1, r2, r3, r4, r5, r6, r7, r8, r9, r10, r11, r12, r13⟩ : Rul) (⟨s0, s1, s2, s3, s4, s5, s6, s7, s8, s9, s10, s11, s12, s13, s14, s15, s16, s17, s18, s19, s20, s21, s22, s23, s24, s25, s26, s27⟩ : Inn) e5 e6)) : Option (List PV)) = RR
 simp only [G4, Lu, Lk, std, xOf, PXb, PXc, PXn, PXm, Nat.reduceAdd, Int.reduceBEq, B3 h, Qy]
 subst hres; simp only [Mc]
 cases (r3 == 0 || e5 == 0 && e6 == 0) <;> try rfl
 cases (iLt 0 e5 && (s1 == 0 || iLe e5 s3)) <;> try rfl
 cases iLt 0 e6 <;> cases iLt r3 e6 <;> try rfl
 simp only [PXb, PXc, PXn, PXm, Nat.reduceAdd, Int.reduceBEq]
 cases iLt (IntKind.i64.wrap (e6 * r4)) (CG r4 s10 s11) <;> rfl
end Go.Px
end
section
namespace Go.Px
set_option maxRecDepth 100000
def B8 (r : Rul) (s : Inn) (e : Ev) : Inn × Int :=
  cond (e.kind == 2) (Sw s e.player e.other) (cond (e.kind == 3) (TT r s e.player) (cond (e.kind == 4) (LL r s e.ball)
    (cond (e.kind == 5) (cond e.yes (G6 s e.player) (Ns s e.player)) (cond (e.kind == 6) (JJ s e.player e.yes) (cond (e.kind == 7) (Ka s e.runs)
      (cond (e.kind == 8) (Mm s e.player) (cond (e.kind == 9) (P4 s e.player e.yes) (cond (e.kind == 10) (KZ r s) (cond (e.kind == 11) (Kg r s e.side)
        (cond (e.kind == 13) (G9 s e.side e.runs) (cond (e.kind == 14) (Kp r s e.side e.yes) (Mc r s e.runs e.overs))))))))))))
theorem ZJ {e : Ev} (h : (evS e == 0) = true) : (iLt e.kind 1 || iLt 16 e.kind) = false := by
 unfold evS at h
 cases hk : (iLt e.kind 1 || iLt 16 e.kind) with
 | false => rfl
 | true => rw [hk] at h; cases h
theorem lE {e : Ev} (h : (evS e == 0) = true) (hk : e.kind = 14) : e.side = 1 ∨ e.side = 2 := by
 have h0 := ZJ h
 unfold evS at h
 rw [h0] at h
 cases h1 : bg e with
 | true => rw [h1] at h; cases h
 | false =>
  cases h2 : Wv e with
  | true => rw [h1, h2] at h; cases h
  | false =>
   unfold Wv at h2
   rw [Bool.or_eq_false_iff] at h2
   have h3 := h2.1
   rw [hk, show uS 14 = true from rfl, Bool.and_true] at h3
   simp only [btw, iLe, Bool.not_eq_false', Bool.and_eq_true, decide_eq_true_eq] at h3
   omega
set_option maxHeartbeats 4000000 in
theorem Vv {N : Nat} {r1 r2 r3 r4 r5 r6 r7 r9 r10 r11 r12 : Int} {r8 : Bool} {r0 : ByteArray} {r13 : Rows} {s0 s1 s2 s3 s4 s5 s6 s7 s8 s9 s10 s11 s12 s13 s15 s21 s22 s23 s25 s26 s27 : Int} {s18 s20 : Bool} {s14 s16 s17 s19 s24 : Rows} {e0 e1 e2 e3 e5 e6 e7 e8 e9 e10 e11 e13 e14 e15 e16 e18 : Int} {e4 e12 e17 : Bool} (h : Fit s14 s16 s17 s19 s24) (hw : s17.length + s16.length ≤ 1000000) (hN : 2097152 < N) (hs : r0.size ≤ 1048576) (h13 : r13.length ≤ 1048576) (he : (evS (⟨e0, e1, e2, e3, e4, e5, e6, ⟨e7, e8, e9, e10, e11, e12, e13, e14, e15, e16, e17, e18⟩⟩ : Ev) == 0) = true) : Du N [.str r0, .int r1, .int r2, .int r3, .int r4, .int r5, .int r6, .int r7, .bool r8, .int r9, .int r10, .int r11, .int r12, .rows r13, .int s0, .int s1, .int s2, .int s3, .int s4, .int s5, .int s6, .int s7, .int s8, .int s9, .int s10, .int s11, .int s12, .int s13, .rows s14, .int s15, .rows s16, .rows s17, .bool s18, .rows s19, .bool s20, .int s21, .int s22, .int s23, .rows s24, .int s25, .int s26, .int s27, .int e0, .int e1, .int e2, .int e3, .bool e4, .int e5, .int e6, .int e7, .int e8, .int e9, .int e10, .int e11, .bool e12, .int e13, .int e14, .int e15, .int e16, .bool e17, .int e18] = some (BK (B8 (⟨r0, r1, r2, r3, r4, r5, r6, r7, r8, r9, r10, r11, r12, r13⟩ : Rul) (⟨s0, s1, s2, s3, s4, s5, s6, s7, s8, s9, s10, s11, s12, s13, s14, s15, s16, s17, s18, s19, s20, s21, s22, s23, s24, s25, s26, s27⟩ : Inn) (⟨e0, e1, e2, e3, e4, e5, e6, ⟨e7, e8, e9, e10, e11, e12, e13, e14, e15, e16, e17, e18⟩⟩ : Ev))) := by
  show D4 (std (Ac N) N) (xOf _) = _
  generalize hres : (some (BK (B8 (⟨r0, r1, r2, r3, r4, r5, r6, r7, r8, r9, r10, r11, r12, r13⟩ : Rul) (⟨s0, s1, s2, s3, s4, s5, s6, s7, s8, s9, s10, s11, s12, s13, s14, s15, s16, s17, s18, s19, s20, s21, s22, s23, s24, s25, s26, s27⟩ : Inn) (⟨e0, e1, e2, e3, e4, e5, e6, ⟨e7, e8, e9, e10, e11, e12, e13, e14, e15, e16, e17, e18⟩⟩ : Ev))) : Option (List PV)) = RR
  have hsd : e0 = 14 → e1 = 1 ∨ e1 = 2 := lE (e := (⟨e0, e1, e2, e3, e4, e5, e6, ⟨e7, e8, e9, e10, e11, e12, e13, e14, e15, e16, e17, e18⟩⟩ : Ev)) he
  rcases ZQ (ZJ he) with hk | hk | hk | hk | hk | hk | hk | hk | hk | hk | hk | hk | hk | hk | hk | hk <;> simp only at hk <;> subst hk <;> clear he
  all_goals (first
    | (have hsd := hsd rfl
       simp only [D4, Fq, Gd, FX, EP, FF, Ew, E0, FN, Ds, Ez, EI, EJ, Ee, ET, std, xOf, PXb, PXc, PXn, PXm, Nat.reduceAdd, Int.reduceBEq, Wx h hsd]
       subst hres
       rfl)
    | (simp only [D4, Fq, Gd, FX, EP, FF, Ew, E0, FN, Ds, Ez, EI, EJ, Ee, ET, std, xOf, PXb, PXc, PXn, PXm, Nat.reduceAdd, Int.reduceBEq, aM h hN, dE h hN hs, Za h hw hN hs h13, Ww h hN, ZR h hN, YS h hN, Xs h, Yy h, VM h, YV h hN hs, V4 h, Vz h, XK h]
       subst hres
       first
       | rfl
       | (cases e4 <;> rfl)))
end Go.Px
end
section
namespace Go.Px
set_option maxRecDepth 100000
theorem Lens.of {s t : Inn} (h1 : t.batters.length = s.batters.length) (h2 : t.bowled.length = s.bowled.length) (h3 : t.subs.length = s.subs.length) (h4 : t.bowlers = s.bowlers) (h5 : t.before = s.before) : Lens s t := ⟨h1, h2, h3, by rw [h4]; omega, by rw [h5]; omega⟩
theorem L_c {s : Inn} (b : Bool) (x y : Inn × Int) (hx : Lens s x.1) (hy : Lens s y.1) : Lens s (cond b x y).1 := by cases b <;> assumption
theorem gj (s : Inn) (p q : Int) : Lens s (Sw s p q).1 := by
 unfold Sw
 exact L_c _ _ _ (Lens.refl s) (L_c _ _ _ (Lens.refl s) (L_c _ _ _ (Lens.refl s) (Lens.of (by simp [KR]) rfl rfl rfl rfl)))
theorem iP (r : Rul) (s : Inn) (p : Int) : Lens s (TT r s p).1 := by
 unfold TT
 exact P_c (P := fun x : Inn => Lens s x) _ _ _ (Lens.of rfl rfl rfl rfl rfl) (Lens.refl s)
theorem hC (r : Rul) (s : Inn) (d : Del) : Lens s (LL r s d).1 := by
 unfold LL
 refine L_c _ _ _ (Lens.refl s) ?_
 have l1 := dK s d
 have w1 := gt s d
 have w2 := hY s d
 simp only [dL]
 have l2 := Zk r (Ae s d) (AB r d).counts
 cases (Ai r (Ae s d) (AB r d).counts).2
 ·exact ⟨l2.bt.trans l1.bt, l2.bd.trans l1.bd, l2.sb.trans l1.sb, by have := l2.bw; rw [w1] at this; exact this, by have := l2.bf; rw [w1, w2] at this; exact this⟩
 ·exact ⟨l2.bt.trans l1.bt, l2.bd.trans l1.bd, l2.sb.trans l1.sb, by have := l2.bw; rw [w1] at this; exact this, by have := l2.bf; rw [w1, w2] at this; exact this⟩
theorem cR (s : Inn) (p : Int) : Lens s (G6 s p).1 := by
 unfold G6
 exact L_c _ _ _ (Lens.of (by simp [KR]) rfl rfl rfl rfl) (Lens.refl s)
theorem fP (s : Inn) (p : Int) : Lens s (Ns s p).1 := by
 unfold Ns
 exact L_c _ _ _ (Lens.of (by simp [KR]) rfl rfl rfl rfl) (Lens.refl s)
theorem eX (s : Inn) (p : Int) (b : Bool) : Lens s (JJ s p b).1 := by
 unfold JJ
 exact L_c _ _ _ (Lens.refl s) (L_c _ _ _ (Lens.refl s) (L_c _ _ _ (Lens.refl s) (L_c _ _ _ (Lens.refl s) (Lens.of (by simp [KR]) rfl rfl rfl rfl))))
theorem bA (s : Inn) (n : Int) : Lens s (Ka s n).1 := by
 unfold Ka
 exact L_c _ _ _ (Lens.refl s) (Lens.of rfl rfl rfl rfl rfl)
theorem eE (s : Inn) (n : Int) : Lens s (Mm s n).1 := by
 unfold Mm
 exact L_c _ _ _ (Lens.refl s) (L_c _ _ _ (Lens.refl s) (L_c _ _ _ (Lens.refl s) (Lens.of rfl rfl rfl rfl rfl)))
theorem fp (s : Inn) (n : Int) (b : Bool) : Lens s (P4 s n b).1 := by
 unfold P4
 exact L_c _ _ _ (Lens.refl s) (L_c _ _ _ (Lens.refl s) (Lens.of rfl rfl (by simp [jH]) rfl rfl))
theorem cX (r : Rul) (s : Inn) : Lens s (KZ r s).1 := by
 unfold KZ
 exact L_c _ _ _ (Lens.refl s) (Lens.of rfl rfl rfl rfl rfl)
theorem bV (r : Rul) (s : Inn) (n : Int) : Lens s (Kg r s n).1 := by
 unfold Kg
 exact L_c _ _ _ (Lens.refl s) (L_c _ _ _ (Lens.refl s) (Lens.of rfl rfl rfl rfl rfl))
theorem dV (s : Inn) (n m : Int) : Lens s (G9 s n m).1 := by
 unfold G9
 exact L_c _ _ _ (Lens.refl s) (L_c _ _ _ (Lens.of rfl rfl rfl rfl rfl) (Lens.of rfl rfl rfl rfl rfl))
theorem eZ (r : Rul) (s : Inn) (n : Int) (b : Bool) : Lens s (Kp r s n b).1 := by
 unfold Kp
 exact L_c _ _ _ (Lens.refl s) (L_c _ _ _ (Lens.of rfl rfl rfl rfl rfl) (Lens.refl s))
theorem dy (r : Rul) (s : Inn) (n m : Int) : Lens s (Mc r s n m).1 := by
 unfold Mc
 exact L_c _ _ _ (Lens.refl s) (L_c _ _ _ (Lens.refl s) (L_c _ _ _ (Lens.refl s) (Lens.of rfl rfl rfl rfl rfl)))
theorem UU (r : Rul) (s : Inn) (e : Ev) : Lens s (B8 r s e).1 := by
  unfold B8
  exact L_c _ _ _ (gj ..) (L_c _ _ _ (iP ..) (L_c _ _ _ (hC ..) (L_c _ _ _ (L_c _ _ _ (cR ..) (fP ..)) (L_c _ _ _ (eX ..) (L_c _ _ _ (bA ..)
    (L_c _ _ _ (eE ..) (L_c _ _ _ (fp ..) (L_c _ _ _ (cX ..) (L_c _ _ _ (bV ..) (L_c _ _ _ (dV ..) (L_c _ _ _ (eZ ..) (dy ..))))))))))))
def GA (r : Rul) (s : Inn) : Bool := SM r.name r.side r.innings r.overs r.balls r.quota r.wide r.noball r.newball r.followon r.reviews r.outside r.power s.batters s.bowlers s.before s.bowled s.subs s.side s.target s.overs s.runs s.wickets s.wides s.noballs s.byes s.legbyes s.pens s.complete s.inover s.striker s.other s.bowler s.ballage s.keeper s.outside s.rev1 s.rev2 s.ending
def mM (r : Rul) (s : Inn) : Int := ja (GA r s) s.batters s.striker s.other s.target s.overs s.runs s.complete
theorem RE {N : Nat} {r1 r2 r3 r4 r5 r6 r7 r9 r10 r11 r12 : Int} {r8 : Bool} {r0 : ByteArray} {r13 : Rows} {s0 s1 s2 s3 s4 s5 s6 s7 s8 s9 s10 s11 s12 s13 s15 s21 s22 s23 s25 s26 s27 : Int} {s18 s20 : Bool} {s14 s16 s17 s19 s24 : Rows} (h : Fit s14 s16 s17 s19 s24) (hN : 2097152 < N) (hs : r0.size ≤ 1048576) : BM N [.str r0, .int r1, .int r2, .int r3, .int r4, .int r5, .int r6, .int r7, .bool r8, .int r9, .int r10, .int r11, .int r12, .rows r13, .int s0, .int s1, .int s2, .int s3, .int s4, .int s5, .int s6, .int s7, .int s8, .int s9, .int s10, .int s11, .int s12, .int s13, .rows s14, .int s15, .rows s16, .rows s17, .bool s18, .rows s19, .bool s20, .int s21, .int s22, .int s23, .rows s24, .int s25, .int s26, .int s27] = some [.bool (GA (⟨r0, r1, r2, r3, r4, r5, r6, r7, r8, r9, r10, r11, r12, r13⟩ : Rul) (⟨s0, s1, s2, s3, s4, s5, s6, s7, s8, s9, s10, s11, s12, s13, s14, s15, s16, s17, s18, s19, s20, s21, s22, s23, s24, s25, s26, s27⟩ : Inn))] := by
 exact QK N _ _ _ _ _ _ _ _ _ _ _ _ _ _ _ _ _ _ _ _ _ _ _ _ _ _ _ _ _ _ _ _ _ _ _ _ _ _ _ _ _ _ hN hs h.bt h.bw h.bf h.bd
theorem XM {N : Nat} {r1 r2 r3 r4 r5 r6 r7 r9 r10 r11 r12 : Int} {r8 : Bool} {r0 : ByteArray} {r13 : Rows} {s0 s1 s2 s3 s4 s5 s6 s7 s8 s9 s10 s11 s12 s13 s15 s21 s22 s23 s25 s26 s27 : Int} {s18 s20 : Bool} {s14 s16 s17 s19 s24 : Rows} (h : Fit s14 s16 s17 s19 s24) (hN : 2097152 < N) (hs : r0.size ≤ 1048576) : DI N [.str r0, .int r1, .int r2, .int r3, .int r4, .int r5, .int r6, .int r7, .bool r8, .int r9, .int r10, .int r11, .int r12, .rows r13, .int s0, .int s1, .int s2, .int s3, .int s4, .int s5, .int s6, .int s7, .int s8, .int s9, .int s10, .int s11, .int s12, .int s13, .rows s14, .int s15, .rows s16, .rows s17, .bool s18, .rows s19, .bool s20, .int s21, .int s22, .int s23, .rows s24, .int s25, .int s26, .int s27] = some [.int (mM (⟨r0, r1, r2, r3, r4, r5, r6, r7, r8, r9, r10, r11, r12, r13⟩ : Rul) (⟨s0, s1, s2, s3, s4, s5, s6, s7, s8, s9, s10, s11, s12, s13, s14, s15, s16, s17, s18, s19, s20, s21, s22, s23, s24, s25, s26, s27⟩ : Inn))] := by
 exact V0 N _ _ _ _ _ _ _ _ _ _ _ _ _ _ _ _ _ _ _ _ _ _ _ _ _ _ _ _ _ _ _ _ _ _ _ _ _ _ _ _ _ _ hN hs h.bt h.bw h.bf h.bd
def dQ (t : Inn) (b : Bool) : Inn := ⟨t.side, t.target, t.overs, t.runs, t.wickets, t.wides, t.noballs, t.byes, t.legbyes, t.pens, t.complete, t.inover, t.striker, t.other, t.batters, t.bowler, t.bowlers, t.before, b, t.bowled, t.freehit, t.ballage, t.keeper, t.outside, t.subs, t.rev1, t.rev2, t.ending⟩
def Bi (r : Rul) (t : Inn) (b : Bool) : Inn := { dQ t b with ending := cond (t.ending == 0) (mM r (dQ t b)) t.ending }
def Vj (s : Inn) (e : Ev) : Bool := e.kind == 1 || e.kind == 12 || e.kind == 16 || (!Cw s.batters && !(e.kind == 2))
def Ak (r : Rul) (s : Inn) (e : Ev) : Inn × Int :=
  cond (!GA r s || !(evS e == 0)) (s, 1) (cond (!(s.ending == 0)) (s, 26) (cond (Vj s e) (s, 1)
    (cond (!((B8 r s e).2 == 0)) (s, (B8 r s e).2) (Bi r (B8 r s e).1 (e.kind == 4), 0))))
set_option maxHeartbeats 4000000 in
theorem MX {N : Nat} {r1 r2 r3 r4 r5 r6 r7 r9 r10 r11 r12 : Int} {r8 : Bool} {r0 : ByteArray} {r13 : Rows} {s0 s1 s2 s3 s4 s5 s6 s7 s8 s9 s10 s11 s12 s13 s15 s21 s22 s23 s25 s26 s27 : Int} {s18 s20 : Bool} {s14 s16 s17 s19 s24 : Rows} {e0 e1 e2 e3 e5 e6 e7 e8 e9 e10 e11 e13 e14 e15 e16 e18 : Int} {e4 e12 e17 : Bool} (h : Fit s14 s16 s17 s19 s24) (hw : s17.length + s16.length ≤ 1000000) (hN : 2097152 < N) (hs : r0.size ≤ 1048576) (h13 : r13.length ≤ 1048576) : GG N [.str r0, .int r1, .int r2, .int r3, .int r4, .int r5, .int r6, .int r7, .bool r8, .int r9, .int r10, .int r11, .int r12, .rows r13, .int s0, .int s1, .int s2, .int s3, .int s4, .int s5, .int s6, .int s7, .int s8, .int s9, .int s10, .int s11, .int s12, .int s13, .rows s14, .int s15, .rows s16, .rows s17, .bool s18, .rows s19, .bool s20, .int s21, .int s22, .int s23, .rows s24, .int s25, .int s26, .int s27, .int e0, .int e1, .int e2, .int e3, .bool e4, .int e5, .int e6, .int e7, .int e8, .int e9, .int e10, .int e11, .bool e12, .int e13, .int e14, .int e15, .int e16, .bool e17, .int e18] = some (BK (Ak (⟨r0, r1, r2, r3, r4, r5, r6, r7, r8, r9, r10, r11, r12, r13⟩ : Rul) (⟨s0, s1, s2, s3, s4, s5, s6, s7, s8, s9, s10, s11, s12, s13, s14, s15, s16, s17, s18, s19, s20, s21, s22, s23, s24, s25, s26, s27⟩ : Inn) (⟨e0, e1, e2, e3, e4, e5, e6, ⟨e7, e8, e9, e10, e11, e12, e13, e14, e15, e16, e17, e18⟩⟩ : Ev))) := by
 show JM (std (CB N) N) (xOf _) = _
 generalize hres : (some (BK (Ak (⟨r0, r1, r2, r3, r4, r5, r6, r7, r8, r9, r10, r11, r12, r13⟩ : Rul) (⟨s0, s1, s2, s3, s4, s5, s6, s7, s8, s9, s10, s11, s12, s13, s14, s15, s16, s17, s18, s19, s20, s21, s22, s23, s24, s25, s26, s27⟩ : Inn) (⟨e0, e1, e2, e3, e4, e5, e6, ⟨e7, e8, e9, e10, e11, e12, e13, e14, e15, e16, e17, e18⟩⟩ : Ev))) : Option (List PV)) = RR
 have l1 := UU (⟨r0, r1, r2, r3, r4, r5, r6, r7, r8, r9, r10, r11, r12, r13⟩ : Rul) (⟨s0, s1, s2, s3, s4, s5, s6, s7, s8, s9, s10, s11, s12, s13, s14, s15, s16, s17, s18, s19, s20, s21, s22, s23, s24, s25, s26, s27⟩ : Inn) (⟨e0, e1, e2, e3, e4, e5, e6, ⟨e7, e8, e9, e10, e11, e12, e13, e14, e15, e16, e17, e18⟩⟩ : Ev)
 have f1 := Pi l1 h (by simp only; omega)
 simp only [JM, N8, Mn, Ma, ND, Ff, Fn, std, xOf, PXb, RE h hN hs, Tl hN, B3 h, X6 h.bt hN]
 subst hres; simp only [Ak, Vj]
 cases GA (⟨r0, r1, r2, r3, r4, r5, r6, r7, r8, r9, r10, r11, r12, r13⟩ : Rul) (⟨s0, s1, s2, s3, s4, s5, s6, s7, s8, s9, s10, s11, s12, s13, s14, s15, s16, s17, s18, s19, s20, s21, s22, s23, s24, s25, s26, s27⟩ : Inn)
 ·rfl
 cases he : evS (⟨e0, e1, e2, e3, e4, e5, e6, ⟨e7, e8, e9, e10, e11, e12, e13, e14, e15, e16, e17, e18⟩⟩ : Ev) == 0
 ·simp only [PXb, PXc, PXn, PXm, Nat.reduceAdd, Int.reduceBEq, he]
 simp only [PXb, PXc, PXn, PXm, Nat.reduceAdd, Int.reduceBEq, he]
 cases s27 == 0 <;> try rfl
 cases (e0 == 1 || e0 == 12 || e0 == 16) <;> cases Cw s14 <;> cases e0 == 2 <;> try rfl
 all_goals (simp only [PXb, PXc, PXn, PXm, Nat.reduceAdd, Int.reduceBEq, Ff, Fn, Vv h hw hN hs h13 he, XM f1 hN hs])
 all_goals (unfold Bi dQ; cases (B8 (⟨r0, r1, r2, r3, r4, r5, r6, r7, r8, r9, r10, r11, r12, r13⟩ : Rul) (⟨s0, s1, s2, s3, s4, s5, s6, s7, s8, s9, s10, s11, s12, s13, s14, s15, s16, s17, s18, s19, s20, s21, s22, s23, s24, s25, s26, s27⟩ : Inn) (⟨e0, e1, e2, e3, e4, e5, e6, ⟨e7, e8, e9, e10, e11, e12, e13, e14, e15, e16, e17, e18⟩⟩ : Ev)).2 == 0 <;> cases (B8 (⟨r0, r1, r2, r3, r4, r5, r6, r7, r8, r9, r10, r11, r12, r13⟩ : Rul) (⟨s0, s1, s2, s3, s4, s5, s6, s7, s8, s9, s10, s11, s12, s13, s14, s15, s16, s17, s18, s19, s20, s21, s22, s23, s24, s25, s26, s27⟩ : Inn) (⟨e0, e1, e2, e3, e4, e5, e6, ⟨e7, e8, e9, e10, e11, e12, e13, e14, e15, e16, e17, e18⟩⟩ : Ev)).1.ending == 0 <;> rfl)
end Go.Px
end
section
namespace Go.Px
set_option maxRecDepth 100000
theorem mT (L : Rows) (c : Nat) : (cut L c).length ≤ c := by
 unfold cut
 rw [List.length_drop, List.length_take]
 cases h : iLt (c : Int) (L.length : Int) with
 | true => simp only [cond_true]; omega
 | false => simp only [iLt, decide_eq_false_iff_not] at h; simp only [cond_false]; omega
theorem eS {s t : Inn} (r : Rul) (b : Bool) (h : Lens s t) : Lens s (Bi r t b) := ⟨h.bt, h.bd, h.sb, h.bw, h.bf⟩
theorem Qs (r : Rul) (s : Inn) (e : Ev) : Lens s (Ak r s e).1 := by
 unfold Ak
 exact L_c _ _ _ (Lens.refl s) (L_c _ _ _ (Lens.refl s) (L_c _ _ _ (Lens.refl s) (L_c _ _ _ (Lens.refl s) (eS r _ (UU r s e)))))
end Go.Px
end
section
namespace Go.Px
set_option maxRecDepth 100000
theorem Y1 {r : Rul} {s : Inn} {e : Ev} (h : ((Ak r s e).2 == 0) = true) :
    GA r s = true ∧ (evS e == 0) = true ∧ (s.ending == 0) = true ∧ Vj s e = false ∧ ((B8 r s e).2 == 0) = true ∧ (Ak r s e).1 = Bi r (B8 r s e).1 (e.kind == 4) := by
  unfold Ak at h ⊢
  cases hv : GA r s with
  | false => rw [hv] at h; cases h
  | true =>
    cases he : evS e == 0 with
    | false => rw [hv, he] at h; cases h
    | true =>
      cases hn : s.ending == 0 with
      | false => rw [hv, he, hn] at h; cases h
      | true =>
        cases hw : Vj s e with
        | true => rw [hv, he, hn, hw] at h; cases h
        | false =>
          cases hp : (B8 r s e).2 == 0 with
          | false => rw [hv, he, hn, hw, hp] at h; exact absurd (hp ▸ h) (by decide)
          | true => exact ⟨rfl, rfl, rfl, rfl, rfl, rfl⟩
end Go.Px
end
section
namespace Go.Px
set_option maxRecDepth 100000
theorem R4 {x a b : Int} : btw x a b = true ↔ a ≤ x ∧ x ≤ b := by simp [btw, iLe]
structure RulOk (r : Rul) : Prop where
 side : 2 ≤ r.side ∧ r.side ≤ 11
 innings : 1 ≤ r.innings ∧ r.innings ≤ 2
 overs : 0 ≤ r.overs ∧ r.overs ≤ 90
 balls : 4 ≤ r.balls ∧ r.balls ≤ 8
 quota : 0 ≤ r.quota ∧ r.quota ≤ 90
 wide : 1 ≤ r.wide ∧ r.wide ≤ 5
 noball : 1 ≤ r.noball ∧ r.noball ≤ 5
 newball : 0 ≤ r.newball ∧ r.newball ≤ 200
 followon : 0 ≤ r.followon ∧ r.followon ≤ 1000
 reviews : 0 ≤ r.reviews ∧ r.reviews ≤ 9
 outside : 0 ≤ r.outside ∧ r.outside ≤ 11
theorem E4 {r : Rul} (h : BD r = 0) : RulOk r := by
 unfold BD Ky at h
 cases hn : VJ r.name with
 | false => rw [hn] at h; cases h
 | true =>
  cases hr : Mk r.side r.innings r.overs r.balls r.quota r.wide r.noball r.newball r.followon r.reviews r.outside with
  | false => rw [hn, hr] at h; cases h
  | true =>
   unfold Mk at hr
   simp only [Bool.and_eq_true, R4] at hr
   obtain ⟨⟨⟨⟨⟨⟨⟨⟨⟨⟨h1, h2⟩, h3⟩, h4⟩, h5⟩, h6⟩, h7⟩, h8⟩, h9⟩, h10⟩, h11⟩ := hr
   exact ⟨h1, h2, h3, h4, h5, h6, h7, h8, h9, h10, h11⟩
def Bm (x : Int) : Prop := 0 ≤ x ∧ x ≤ 1000000000
structure InnOk (r : Rul) (s : Inn) : Prop where
 code : BD r = 0
 side : 1 ≤ s.side ∧ s.side ≤ 2
 lb : (s.batters.length : Int) = r.side
 ld : (s.bowled.length : Int) = r.side
 lz : (s.subs.length : Int) = r.side
 ending : s.ending ≤ 5
 st : 0 ≤ s.striker ∧ s.striker ≤ r.side
 ot : 0 ≤ s.other ∧ s.other ≤ r.side
 bat : Vp s.batters s.striker s.other s.wickets = true
 bow : 0 ≤ s.bowler ∧ s.bowler ≤ r.side
 kee : 0 ≤ s.keeper ∧ s.keeper ≤ r.side
 dw : Jf s.bowlers r.side = true
 df : Jf s.before r.side = true
 ov : ZW r.overs s.overs = true
 io : 0 ≤ s.inover ∧ s.inover ≤ r.balls - 1
 target : Bm s.target
 runs : Bm s.runs
 wides : Bm s.wides
 noballs : Bm s.noballs
 byes : Bm s.byes
 legbyes : Bm s.legbyes
 pens : Bm s.pens
 complete : Bm s.complete
 ballage : Bm s.ballage
 outside : Bm s.outside
 rev1 : Bm s.rev1
 rev2 : Bm s.rev2
 bowled : JQ Ih s.bowled = false
theorem kg {x : Int} : Ih x = false ↔ Bm x := by
 unfold Ih Bm
 rw [Bool.not_eq_false', R4]
theorem jQ (a b c d e f g h i j k l : Int) : JQ Ih (bl a b c d e f g h i j k l) = false ↔ Bm a ∧ Bm b ∧ Bm c ∧ Bm d ∧ Bm e ∧ Bm f ∧ Bm g ∧ Bm h ∧ Bm i ∧ Bm j ∧ Bm k ∧ Bm l := by
 rw [Mz]
 simp only [bl, List.any_cons, List.any_nil, Bool.or_false, Zo, kj, Bool.or_eq_false_iff, kg]
theorem Yn {r : Rul} (h : RulOk r) : IntKind.i64.wrap (r.balls - 1) = r.balls - 1 := by
 have := h.balls
 exact DT (by omega) (by omega)
theorem fF {x : Int} : (!iLt 5 x) = true ↔ x ≤ 5 := by
 rw [Bool.not_eq_true']
 simp only [iLt, decide_eq_false_iff_not]
 omega
theorem N1 {r : Rul} {s : Inn} : GA r s = true ↔ InnOk r s := by
 unfold GA SM
 simp only [Bool.and_eq_true, Bool.not_eq_true', jQ, R4]
 constructor
 ·intro ⟨h1, h2, h3, h4, h5, h6, h7, h8, h9, h10, h11, h12, h13, h14, h15, ⟨n1, n2, n3, n4, n5, n6, n7, n8, n9, n10, n11, n12⟩, h17⟩
  have hc : BD r = 0 := beq_iff_eq.1 h1
  exact ⟨hc, h2, beq_iff_eq.1 h3, beq_iff_eq.1 h4, beq_iff_eq.1 h5, fF.1 (by rw [h6]; rfl), h7, h8, h9, h10, h11, h12, h13, h14, by rw [Yn (E4 hc)] at h15; exact h15, n1, n2, n3, n4, n5, n6, n7, n8, n9, n10, n11, n12, h17⟩
 ·intro h
  have h6 := fF.2 h.ending
  rw [Bool.not_eq_true'] at h6
  exact ⟨beq_iff_eq.2 h.code, h.side, beq_iff_eq.2 h.lb, beq_iff_eq.2 h.ld, beq_iff_eq.2 h.lz, h6, h.st, h.ot, h.bat, h.bow, h.kee, h.dw, h.df, h.ov, by rw [Yn (E4 h.code)]; exact h.io,
   ⟨h.target, h.runs, h.wides, h.noballs, h.byes, h.legbyes, h.pens, h.complete, h.ballage, h.outside, h.rev1, h.rev2⟩, h.bowled⟩
theorem Mi (n : Int) : IntKind.i64.wrap n = (n + 9223372036854775808) % 18446744073709551616 - 9223372036854775808 := by
 unfold IntKind.wrap
 simp only [IntKind.signed, IntKind.bits]
 simp
 split <;> omega
theorem Gr (n : Int) : IntKind.i64.wrap (IntKind.i64.wrap n) = IntKind.i64.wrap n := by
 simp only [Mi]; omega
theorem Ku (a b : Int) : IntKind.i64.wrap (IntKind.i64.wrap (a + b) - a) = IntKind.i64.wrap b := by
 simp only [Mi]; omega
theorem Tu (a : Int) : IntKind.i64.wrap (a - a) = 0 := by rw [Int.sub_self]; rfl
theorem Wz (s : Inn) (d : Del) : (Ae s d).runs = s.runs ∧ (Ae s d).wides = s.wides ∧ (Ae s d).noballs = s.noballs ∧ (Ae s d).byes = s.byes ∧ (Ae s d).legbyes = s.legbyes ∧ (Ae s d).pens = s.pens ∧ (Ae s d).complete = s.complete ∧ (Ae s d).inover = s.inover ∧ (Ae s d).bowler = s.bowler ∧ (Ae s d).bowled = s.bowled := by
  unfold Ae
  cases (!(d.runs.tmod 2 == 0) != d.crossed) <;> exact P_c (P := fun x : Inn => x.runs = s.runs ∧ x.wides = s.wides ∧ x.noballs = s.noballs ∧ x.byes = s.byes ∧ x.legbyes = s.legbyes ∧ x.pens = s.pens ∧ x.complete = s.complete ∧ x.inover = s.inover ∧ x.bowler = s.bowler ∧ x.bowled = s.bowled) _ _ _ ⟨rfl, rfl, rfl, rfl, rfl, rfl, rfl, rfl, rfl, rfl⟩
    (P_c (P := fun x : Inn => x.runs = s.runs ∧ x.wides = s.wides ∧ x.noballs = s.noballs ∧ x.byes = s.byes ∧ x.legbyes = s.legbyes ∧ x.pens = s.pens ∧ x.complete = s.complete ∧ x.inover = s.inover ∧ x.bowler = s.bowler ∧ x.bowled = s.bowled) _ _ _ ⟨rfl, rfl, rfl, rfl, rfl, rfl, rfl, rfl, rfl, rfl⟩ ⟨rfl, rfl, rfl, rfl, rfl, rfl, rfl, rfl, rfl, rfl⟩)
def Hj (r : Rul) (s : Inn) (d : Del) : Inn :=
 let o := Ai r (Ae s d) (AB r d).counts
 let t : Inn := cond o.2 (Ha o.1) o.1
 { t with runs := IntKind.i64.wrap (s.runs + C9 (AB r d)), wides := IntKind.i64.wrap (s.wides + (AB r d).wides), noballs := IntKind.i64.wrap (s.noballs + (AB r d).noballs), byes := IntKind.i64.wrap (s.byes + (AB r d).byes), legbyes := IntKind.i64.wrap (s.legbyes + (AB r d).legbyes), freehit := cond (d.type == 1) false (cond (d.type == 3 && r.freehit) true o.1.freehit) }
theorem et {r : Rul} {s : Inn} {d : Del} (h : ((LL r s d).2 == 0) = true) : (Hf r s d == 0) = true ∧ (LL r s d).1 = Hj r s d := by
 unfold LL at h ⊢
 cases hr : Hf r s d == 0 with
 | false => rw [hr] at h; exact absurd (hr ▸ h) (by decide)
 | true =>
  refine ⟨rfl, ?_⟩
  obtain ⟨k1, k2, k3, k4, k5, _⟩ := Wz s d
  simp only [Bool.not_true, cond_false, dL, k1, k2, k3, k4, k5, Hj]
  generalize Ai r (Ae s d) (AB r d).counts = o
  obtain ⟨o1, o2⟩ := o
  cases o2 <;> rfl
theorem Zu {r : Rul} {s : Inn} {d : Del} (h : (Hf r s d == 0) = true) : GX s.batters s.striker s.other = false ∧ (s.bowler == 0) = false ∧ (Pl r s == 0) = true ∧ (Fe d == 0) = true ∧ (O2 d s.freehit == 0) = true ∧ (QP s d == 0) = true := by
 unfold Hf at h
 cases h1 : GX s.batters s.striker s.other with
 | true => rw [h1] at h; cases h
 | false =>
  cases h2 : s.bowler == 0 with
  | true => rw [h1, h2] at h; cases h
  | false =>
   rw [h1, h2] at h
   change (Xn _ _ _ _ == 0) = true at h
   unfold Xn at h
   cases h3 : Pl r s == 0 with
   | false => rw [h3] at h; exact absurd (h3 ▸ h) (by decide)
   | true =>
    cases h4 : Fe d == 0 with
    | false => rw [h3, h4] at h; exact absurd (h4 ▸ h) (by decide)
    | true =>
     cases h5 : O2 d s.freehit == 0 with
     | false => rw [h3, h4, h5] at h; exact absurd (h5 ▸ h) (by decide)
     | true =>
      cases h6 : QP s d == 0 with
      | false => rw [h3, h4, h5, h6] at h; exact absurd (h6 ▸ h) (by decide)
      | true => exact ⟨rfl, rfl, rfl, rfl, rfl, rfl⟩
theorem Wn {d : Del} {f : Bool} (h : (O2 d f == 0) = true) (hd : (d.how == 0) = false) : (d.victim == 1) = true ∨ (d.victim == 2) = true := by
 unfold O2 at h
 rw [hd] at h
 cases h1 : d.victim == 1 with
 | true => exact .inl rfl
 | false =>
  cases h2 : d.victim == 2 with
  | true => exact .inr rfl
  | false =>
   rw [h1, h2] at h
   exfalso
   revert h
   cases (!onS d.how d.type || f && !ay d.how) <;> cases (!Mb d.how && (!(d.source == 0) || !(d.runs == 0))) <;> intro h <;> cases h
theorem dA {s : Inn} {e : Ev} (h : Vj s e = false) (hk : (e.kind == 2) = false) : Cw s.batters = true := by
 unfold Vj at h
 rw [hk] at h
 cases hb : Cw s.batters with
 | true => rfl
 | false => rw [hb] at h; simp at h
theorem eh {s : Inn} {d : Del} (h1 : (s.striker == 0) = false) (h2 : (s.other == 0) = false) (hv : (d.how == 0) = false → (d.victim == 1) = true ∨ (d.victim == 2) = true) :
    (Ae s d).wickets = cond (d.how == 0) s.wickets (inc s.wickets) := by
  unfold Ae
  rw [h1, h2]
  cases hd : d.how == 0 with
  | true => cases (!(d.runs.tmod 2 == 0) != d.crossed) <;> rfl
  | false =>
    rcases hv hd with h | h <;> rw [h] <;> cases (!(d.runs.tmod 2 == 0) != d.crossed) <;> cases d.victim == 1 <;> rfl
theorem fE (r : Rul) (s : Inn) (b : Bool) : (Ai r s b).1.wickets = s.wickets ∧ (Ai r s b).1.pens = s.pens := by
 unfold Ai
 exact P_c (P := fun x : Inn × Bool => x.1.wickets = s.wickets ∧ x.1.pens = s.pens) _ _ _ ⟨rfl, rfl⟩ (P_c (P := fun x : Inn × Bool => x.1.wickets = s.wickets ∧ x.1.pens = s.pens) _ _ _ ⟨rfl, rfl⟩ ⟨rfl, rfl⟩)
theorem gE {r : Rul} {s : Inn} {b : Bool} (hr : RulOk r) (hc : BD r = 0) (hb : inR s.bowler s.bowled.length = true) (hi : 0 ≤ s.inover ∧ s.inover ≤ r.balls - 1) (hn : Bm s.complete) :
    IntKind.i64.wrap (CG r.balls (Ai r s b).1.complete (Ai r s b).1.inover - CG r.balls s.complete s.inover) = cond b 1 0 := by
  have hk : ∃ k : Nat, r.balls = k := ⟨r.balls.toNat, by have := hr.balls; omega⟩
  have hz := hr.balls
  unfold Bm at hn
  unfold Ai CG
  rw [hb, hc]
  cases b with
  | false =>
    have h1 : iLt s.inover r.balls = true := by simp only [iLt, decide_eq_true_eq]; omega
    simp only [cond_false, h1, beq_self_eq_true, Bool.not_true, Bool.or_false, cond_true]
    exact Tu _
  | true =>
    have h2 : inc s.inover = s.inover + 1 := DT (by omega) (by omega)
    simp only [cond_true, h2, beq_self_eq_true, Bool.not_true, Bool.or_false, cond_false]
    have h3 : inc s.complete = s.complete + 1 := DT (by omega) (by omega)
    have hb5 : r.balls = 4 ∨ r.balls = 5 ∨ r.balls = 6 ∨ r.balls = 7 ∨ r.balls = 8 := by omega
    cases h1 : iLt (s.inover + 1) r.balls with
    | true =>
      simp only [cond_true]
      rcases hb5 with e | e | e | e | e <;> rw [e] at hi ⊢ <;> simp only [Mi] <;> omega
    | false =>
      simp only [iLt, decide_eq_false_iff_not] at h1
      simp only [cond_false, h3]
      rcases hb5 with e | e | e | e | e <;> rw [e] at hi h1 ⊢ <;> simp only [Mi] <;> omega
end Go.Px
end
section
namespace Go.Px
set_option maxRecDepth 100000
theorem bU {L : Rows} {s n : Int} (h : GX L s n = false) (hb : Cw L = true) : (s == 0) = false ∧ (n == 0) = false := by
 unfold GX at h
 rw [hb, Bool.true_and, Bool.or_eq_false_iff] at h
 exact h
theorem gd {r : Rul} {s : Inn} (h : InnOk r s) (hb : (s.bowler == 0) = false) : inR s.bowler s.bowled.length = true := by
 have h1 := h.bow
 have h2 := h.ld
 rw [beq_eq_false_iff_ne] at hb
 simp only [inR, iLe, Bool.and_eq_true, decide_eq_true_eq]
 omega
theorem hP {r : Rul} {s : Inn} {e : Ev} (hk : (e.kind == 4) = true) (h : ((Ak r s e).2 == 0) = true) :
    IntKind.i64.wrap ((Ak r s e).1.runs - s.runs) = C9 (AB r e.ball) ∧ IntKind.i64.wrap ((Ak r s e).1.wides - s.wides) = (AB r e.ball).wides ∧ IntKind.i64.wrap ((Ak r s e).1.noballs - s.noballs) = (AB r e.ball).noballs ∧
    IntKind.i64.wrap ((Ak r s e).1.byes - s.byes) = (AB r e.ball).byes ∧ IntKind.i64.wrap ((Ak r s e).1.legbyes - s.legbyes) = (AB r e.ball).legbyes ∧ (Ak r s e).1.pens = s.pens ∧
    IntKind.i64.wrap (CG r.balls (Ak r s e).1.complete (Ak r s e).1.inover - CG r.balls s.complete s.inover) = cond (AB r e.ball).counts 1 0 ∧
    IntKind.i64.wrap ((Ak r s e).1.wickets - s.wickets) = cond (e.ball.how == 0) 0 1 ∧ (Ak r s e).1.fresh = true ∧ IntKind.i64.wrap (Ak r s e).1.runs = (Ak r s e).1.runs := by
  obtain ⟨hv, he, hn, hw, hp, hs⟩ := Y1 h
  have k4 := beq_iff_eq.1 hk
  have hpb : B8 r s e = LL r s e.ball := by unfold B8; rw [k4]; rfl
  obtain ⟨d, hd0⟩ : ∃ d, d = e.ball := ⟨_, rfl⟩
  rw [← hd0] at hpb ⊢
  rw [hpb] at hp hs
  obtain ⟨hr, hb⟩ := et hp
  obtain ⟨q1, q2, q3, q4, q5, q6⟩ := Zu hr
  have ok := N1.1 hv
  have rk := E4 ok.code
  have hbeg : Cw s.batters = true := dA hw (by rw [k4]; rfl)
  obtain ⟨z1, z2⟩ := bU q1 hbeg
  have hin := gd ok q2
  have hout := eh (d := d) z1 z2 (fun hd => Wn q5 hd)
  obtain ⟨k1, k2, k3, k4, k5, k6, k7, k8, k9, k10⟩ := Wz s d
  have hbl := gE (b := (AB r d).counts) (s := Ae s d) rk ok.code (by rw [k9, k10]; exact hin) (by rw [k8]; exact ok.io) (by rw [k7]; exact ok.complete)
  rw [k7, k8] at hbl
  obtain ⟨w1, w2⟩ := fE r (Ae s d) (AB r d).counts
  rw [hs, hb]
  have hc : AB r d = RL r d := by unfold AB; rw [q4]; rfl
  have ht : IntKind.i64.wrap (C9 (AB r d)) = C9 (AB r d) := Gr _
  have c1 : IntKind.i64.wrap (AB r d).wides = (AB r d).wides := by rw [hc]; unfold RL; simp only; cases d.type == 2 <;> first | rfl | exact Gr _
  have c2 : IntKind.i64.wrap (AB r d).noballs = (AB r d).noballs := by
    have := rk.noball
    rw [hc]; unfold RL; simp only; cases d.type == 3 <;> first | rfl | exact DT (n := r.noball) (by omega) (by omega)
  have c3 : IntKind.i64.wrap (AB r d).byes = (AB r d).byes := by rw [hc]; unfold RL; simp only; cases (!(d.type == 2) && d.source == 2) <;> first | rfl | exact Gr _
  have c4 : IntKind.i64.wrap (AB r d).legbyes = (AB r d).legbyes := by rw [hc]; unfold RL; simp only; cases (!(d.type == 2) && d.source == 3) <;> first | rfl | exact Gr _
  refine ⟨(Ku _ _).trans ht, (Ku _ _).trans c1, (Ku _ _).trans c2, (Ku _ _).trans c3, (Ku _ _).trans c4, ?_, ?_, ?_, hk, Gr _⟩
  · have : (Bi r (Hj r s d) (e.kind == 4)).pens = (Ai r (Ae s d) (AB r d).counts).1.pens := by
      show (cond (Ai r (Ae s d) (AB r d).counts).2 (Ha (Ai r (Ae s d) (AB r d).counts).1) (Ai r (Ae s d) (AB r d).counts).1).pens = _
      cases (Ai r (Ae s d) (AB r d).counts).2 <;> rfl
    rw [this, w2, k6]
  · have e1 : (Bi r (Hj r s d) (e.kind == 4)).complete = (Ai r (Ae s d) (AB r d).counts).1.complete := by
      show (cond (Ai r (Ae s d) (AB r d).counts).2 (Ha (Ai r (Ae s d) (AB r d).counts).1) (Ai r (Ae s d) (AB r d).counts).1).complete = _
      cases (Ai r (Ae s d) (AB r d).counts).2 <;> rfl
    have e2 : (Bi r (Hj r s d) (e.kind == 4)).inover = (Ai r (Ae s d) (AB r d).counts).1.inover := by
      show (cond (Ai r (Ae s d) (AB r d).counts).2 (Ha (Ai r (Ae s d) (AB r d).counts).1) (Ai r (Ae s d) (AB r d).counts).1).inover = _
      cases (Ai r (Ae s d) (AB r d).counts).2 <;> rfl
    rw [e1, e2, hbl]
  · have : (Bi r (Hj r s d) (e.kind == 4)).wickets = (Ai r (Ae s d) (AB r d).counts).1.wickets := by
      show (cond (Ai r (Ae s d) (AB r d).counts).2 (Ha (Ai r (Ae s d) (AB r d).counts).1) (Ai r (Ae s d) (AB r d).counts).1).wickets = _
      cases (Ai r (Ae s d) (AB r d).counts).2 <;> rfl
    rw [this, w1, hout]
    unfold inc
    cases d.how == 0 with
    | true => exact Tu _
    | false => exact (Ku s.wickets 1).trans rfl
end Go.Px
end
section
namespace Go.Px
set_option maxRecDepth 100000
def kS : Inn := ⟨0, 0, 0, 0, 0, 0, 0, 0, 0, 0, 0, 0, 0, 0, [], 0, [], [], false, [], false, 0, 0, 0, [], 0, 0, 0⟩
def my (n : Nat) (overs side t p : Int) : Inn := ⟨side, t, overs, p, 0, 0, 0, 0, 0, p, 0, 0, 0, 0, List.replicate n [.int 0], 0, [], [], false, List.replicate n [.int 0], false, 0, 0, 0, List.replicate n [.bool false], 0, 0, 0⟩
def CS (r : Rul) (side t p : Int) : Inn × Int :=
 cond (!(BD r == 0)) (kS, BD r) (cond (!btw side 1 2 || !btw t 0 1000000 || !btw p 0 1000000) (kS, 2) (my r.side.toNat r.overs side t p, 0))
theorem Qd {N : Nat} {r1 r2 r3 r4 r5 r6 r7 r9 r10 r11 r12 : Int} {r8 : Bool} {r0 : ByteArray} {r13 : Rows} {a : Int} {b : Int} {c : Int} (hN : 2097152 < N) (hs : r0.size ≤ 1048576) : Fa N [.str r0, .int r1, .int r2, .int r3, .int r4, .int r5, .int r6, .int r7, .bool r8, .int r9, .int r10, .int r11, .int r12, .rows r13, .int a, .int b, .int c] = some (BK (CS (⟨r0, r1, r2, r3, r4, r5, r6, r7, r8, r9, r10, r11, r12, r13⟩ : Rul) a b c)) := by
 show Hr (std (F0 N) N) (xOf _) = _
 generalize hres : (some (BK (CS (⟨r0, r1, r2, r3, r4, r5, r6, r7, r8, r9, r10, r11, r12, r13⟩ : Rul) a b c)) : Option (List PV)) = RR
 simp only [Hr, Nw, K9, std, xOf, PXb, Cz hN hs, DP]
 subst hres; simp only [CS]
 cases hc : BD (⟨r0, r1, r2, r3, r4, r5, r6, r7, r8, r9, r10, r11, r12, r13⟩ : Rul) == 0 with
 | false => rfl
 | true =>
  have rk := (E4 (beq_iff_eq.1 hc)).side
  obtain ⟨k, hk⟩ : ∃ k : Nat, r1 = k := ⟨r1.toNat, by simp only at rk; omega⟩
  subst hk
  simp only at rk
  have h1 : iSm (k : Int) 1 = true := F6 (by omega) (by omega)
  have h8 : iSm (k : Int) 8 = true := F6 (by omega) (by omega)
  simp only [PXb, PXc, PXn, PXm, Nat.reduceAdd, Int.reduceBEq, h1, h8]
  cases btw a 1 2 <;> cases btw b 0 1000000 <;> cases btw c 0 1000000 <;> rfl
theorem O6 (r : Rul) (side t p : Int) : (CS r side t p).1.Fit ∧ (CS r side t p).1.before = [] ∧ (CS r side t p).1.bowlers = [] := by
 unfold CS
 cases hc : BD r == 0 with
 | false => exact ⟨⟨by show 0 ≤ 1048576; omega, by show 0 ≤ 1048576; omega, by show 0 ≤ 1048576; omega, by show 0 ≤ 1048576; omega, by show 0 ≤ 1048576; omega⟩, rfl, rfl⟩
 | true =>
  have hs := (E4 (beq_iff_eq.1 hc)).side
  have hl : ∀ x : List PV, (List.replicate r.side.toNat x).length ≤ 1048576 := fun x => by rw [List.length_replicate]; omega
  cases (!btw side 1 2 || !btw t 0 1000000 || !btw p 0 1000000) with
  | true => exact ⟨⟨by show 0 ≤ 1048576; omega, by show 0 ≤ 1048576; omega, by show 0 ≤ 1048576; omega, by show 0 ≤ 1048576; omega, by show 0 ≤ 1048576; omega⟩, rfl, rfl⟩
  | false => exact ⟨⟨hl _, by show 0 ≤ 1048576; omega, by show 0 ≤ 1048576; omega, hl _, hl _⟩, rfl, rfl⟩
theorem lm {s : Inn} (h : s.Fit) : (OS s).Fit := ⟨h.bt, h.bw, h.bf, h.bd, h.sb⟩
end Go.Px
end
section
namespace Go.Px
set_option maxRecDepth 100000
structure BatOk (L : Rows) (s n wk : Int) : Prop where
 le : ∀ i, i < L.length → atI L i 0 ≤ 3
 at1 : ∀ i, i < L.length → (atI L i 0 = 1 ↔ (s = (i : Int) + 1 ∨ n = (i : Int) + 1))
 here : Cw L = true → s ≠ 0 ∨ n ≠ 0
 ne : s ≠ 0 → s ≠ n
 wk : wk = XB L
end Go.Px
end
section
namespace Go.Px
set_option maxRecDepth 100000
theorem kd {r : Rul} {s : Inn} (h : InnOk r s) : 2 ≤ r.side ∧ r.side ≤ 11 := (E4 h.code).side
end Go.Px
end
section
namespace Go.Px
set_option maxRecDepth 100000
structure Small (s : Inn) : Prop where
 target : s.target ≤ 999999900
 runs : s.runs ≤ 999999900
 wides : s.wides ≤ 999999900
 noballs : s.noballs ≤ 999999900
 byes : s.byes ≤ 999999900
 legbyes : s.legbyes ≤ 999999900
 pens : s.pens ≤ 999999900
 complete : s.complete ≤ 999999900
 ballage : s.ballage ≤ 999999900
 rev1 : s.rev1 ≤ 999999900
 rev2 : s.rev2 ≤ 999999900
 bowled : ∀ j, j < s.bowled.length → atI s.bowled j 0 ≤ 999999900
end Go.Px
end
