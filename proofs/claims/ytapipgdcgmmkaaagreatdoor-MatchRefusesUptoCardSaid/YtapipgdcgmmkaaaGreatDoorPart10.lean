/- Part 10. -/
import Derived.Test.YtapipgdcgmmkaaaGreatDoorPart09
set_option linter.unusedVariables false
set_option linter.unusedSimpArgs false
section
namespace Go.Px
set_option maxRecDepth 100000
structure Lens (s t : Inn) : Prop where
 bt : t.batters.length = s.batters.length
 bd : t.bowled.length = s.bowled.length
 sb : t.subs.length = s.subs.length
 bw : t.bowlers.length ≤ s.bowlers.length + 1
 bf : t.before.length ≤ s.before.length + s.bowlers.length + 1
theorem Lens.refl (s : Inn) : Lens s s := ⟨rfl, rfl, rfl, by omega, by omega⟩
theorem P_c {α : Type} {P : α → Prop} (b : Bool) (x y : α) (hx : P x) (hy : P y) : P (cond b x y) := by cases b <;> assumption
theorem ZY (s : Inn) (d : Del) : Lens s (Dl s d) := by
 have hb : ∀ (b : Bool), (cond b (LG s.batters s.striker 2) s.batters).length = s.batters.length := fun b => by cases b <;> simp [JE]
 have hc : ∀ (b : Bool), (cond b (LG s.batters s.other 2) s.batters).length = s.batters.length := fun b => by cases b <;> simp [JE]
 unfold Dl
 cases (!(d.runs.tmod 2 == 0) != d.crossed) <;> refine P_c _ _ _ ⟨hb _, rfl, rfl, ?_, ?_⟩ (P_c _ _ _ ⟨hc _, rfl, rfl, ?_, ?_⟩ ⟨rfl, rfl, rfl, ?_, ?_⟩) <;> simp <;> omega
theorem Xb (r : Rul) (s : Inn) (c : Bool) : Lens s (JA r s c).1 := by
 have hl : (cond (ID s.bowlers s.bowlers.length s.bowler) s.bowlers (s.bowlers ++ [[.int s.bowler]])).length ≤ s.bowlers.length + 1 := by
  cases ID s.bowlers s.bowlers.length s.bowler <;> simp
 have hd : (cond c (LG s.bowled s.bowler (inc (atI s.bowled (ix s.bowler) 0))) s.bowled).length = s.bowled.length := by cases c <;> simp [JE]
 unfold JA
 refine P_c (P := fun x : Inn × Bool => Lens s x.1) _ _ _ (Lens.refl s) (P_c (P := fun x : Inn × Bool => Lens s x.1) _ _ _ ⟨rfl, hd, rfl, hl, by simp; omega⟩ ⟨rfl, hd, rfl, by simp, ?_⟩)
 simp only
 omega
def bm (a b c d : Int) : Int := cond (!(a == 0)) a (cond (!(b == 0)) b (cond (!(c == 0)) c (cond (!(d == 0)) d 0)))
def Nx (r : Rul) (s : Inn) (d : Del) : Int :=
 cond (KF s.batters s.striker s.other) 6 (cond (s.bowler == 0) 7 (bm (Su r s) (J8 d) (V1 d s.freehit) (Sb s d)))
theorem T6 {N : Nat} {r1 r2 r3 r4 r5 r6 r7 r9 r10 r11 r12 : Int} {r8 : Bool} {r0 : ByteArray} {r13 : Rows} {s0 s1 s2 s3 s4 s5 s6 s7 s8 s9 s10 s11 s12 s13 s15 s21 s22 s23 s25 s26 s27 : Int} {s18 s20 : Bool} {s14 s16 s17 s19 s24 : Rows} {d0 d1 d2 d3 d4 d6 d7 d8 d9 d11 : Int} {d5 d10 : Bool} (h : Fit s14 s16 s17 s19 s24) (hN : 2097152 < N) (h13 : r13.length ≤ 1048576) : DM N [.str r0, .int r1, .int r2, .int r3, .int r4, .int r5, .int r6, .int r7, .bool r8, .int r9, .int r10, .int r11, .int r12, .rows r13, .int s0, .int s1, .int s2, .int s3, .int s4, .int s5, .int s6, .int s7, .int s8, .int s9, .int s10, .int s11, .int s12, .int s13, .rows s14, .int s15, .rows s16, .rows s17, .bool s18, .rows s19, .bool s20, .int s21, .int s22, .int s23, .rows s24, .int s25, .int s26, .int s27, .int d0, .int d1, .int d2, .int d3, .int d4, .bool d5, .int d6, .int d7, .int d8, .int d9, .bool d10, .int d11] = some [.int (Nx (⟨r0, r1, r2, r3, r4, r5, r6, r7, r8, r9, r10, r11, r12, r13⟩ : Rul) (⟨s0, s1, s2, s3, s4, s5, s6, s7, s8, s9, s10, s11, s12, s13, s14, s15, s16, s17, s18, s19, s20, s21, s22, s23, s24, s25, s26, s27⟩ : Inn) (⟨d0, d1, d2, d3, d4, d5, d6, d7, d8, d9, d10, d11⟩ : Del))] := by
 show FL (std (Be N) N) (xOf _) = _
 generalize hres : (some [.int (Nx (⟨r0, r1, r2, r3, r4, r5, r6, r7, r8, r9, r10, r11, r12, r13⟩ : Rul) (⟨s0, s1, s2, s3, s4, s5, s6, s7, s8, s9, s10, s11, s12, s13, s14, s15, s16, s17, s18, s19, s20, s21, s22, s23, s24, s25, s26, s27⟩ : Inn) (⟨d0, d1, d2, d3, d4, d5, d6, d7, d8, d9, d10, d11⟩ : Del))] : Option (List PV)) = RR
 simp only [FL, Jl, Kx, JQ, HO, Kv, std, xOf, PXb, PZ h.bt hN, X8 h hN h13, N6, Qt hN, Xx h]
 subst hres; simp only [Nx]
 cases KF s14 s12 s13 <;> try rfl
 cases s15 == 0 <;> try rfl
 simp only [PXb]
 generalize Su (⟨r0, r1, r2, r3, r4, r5, r6, r7, r8, r9, r10, r11, r12, r13⟩ : Rul) (⟨s0, s1, s2, s3, s4, s5, s6, s7, s8, s9, s10, s11, s12, s13, s14, s15, s16, s17, s18, s19, s20, s21, s22, s23, s24, s25, s26, s27⟩ : Inn) = a
 generalize J8 (⟨d0, d1, d2, d3, d4, d5, d6, d7, d8, d9, d10, d11⟩ : Del) = b
 generalize V1 (⟨d0, d1, d2, d3, d4, d5, d6, d7, d8, d9, d10, d11⟩ : Del) s20 = c
 generalize Sb (⟨s0, s1, s2, s3, s4, s5, s6, s7, s8, s9, s10, s11, s12, s13, s14, s15, s16, s17, s18, s19, s20, s21, s22, s23, s24, s25, s26, s27⟩ : Inn) (⟨d0, d1, d2, d3, d4, d5, d6, d7, d8, d9, d10, d11⟩ : Del) = e
 refine Ae (CO (len := 4) (fun i => cond (!(atI [[.int a], [.int b], [.int c], [.int e]] i 0 == 0)) (some [.int (atI [[.int a], [.int b], [.int c], [.int e]] i 0)]) none) ?_ ?_ 4 0 N (by omega) (by omega)) ?_
 ·intro self
  rfl
 ·intro i self hi
  simp only [PXb, Am (show i ≤ 1099511627776 by omega), List.length_cons, List.length_nil, Nat.reduceAdd, BF hi, Al hi, Cf]
  cases atI [[.int a], [.int b], [.int c], [.int e]] i 0 == 0 <;> rfl
 ·refine (WR _).trans (congrArg (fun z => some [PV.int z]) ?_)
  unfold bm
  simp only [Bj]
  rw [show atI [[.int a], [.int b], [.int c], [.int e]] 0 0 = a from rfl, show atI [[.int a], [.int b], [.int c], [.int e]] (0 + 1) 0 = b from rfl, show atI [[.int a], [.int b], [.int c], [.int e]] (0 + 1 + 1) 0 = c from rfl, show atI [[.int a], [.int b], [.int c], [.int e]] (0 + 1 + 1 + 1) 0 = e from rfl]
  cases a == 0 <;> try rfl
  cases b == 0 <;> try rfl
  cases c == 0 <;> try rfl
  cases e == 0 <;> rfl
theorem QE {s t : Inn} (l : Lens s t) (h : s.Fit) (hw : s.before.length + s.bowlers.length ≤ 1048575) : t.Fit := ⟨l.bt ▸ h.bt, by have := l.bw; omega, by have := l.bf; omega, l.bd ▸ h.bd, l.sb ▸ h.sb⟩
theorem cG (s : Inn) (d : Del) : (Dl s d).bowlers = s.bowlers := by
 unfold Dl
 cases (!(d.runs.tmod 2 == 0) != d.crossed) <;> exact P_c (P := fun x : Inn => x.bowlers = s.bowlers) _ _ _ rfl (P_c (P := fun x : Inn => x.bowlers = s.bowlers) _ _ _ rfl rfl)
theorem dA (s : Inn) (d : Del) : (Dl s d).before = s.before := by
 unfold Dl
 cases (!(d.runs.tmod 2 == 0) != d.crossed) <;> exact P_c (P := fun x : Inn => x.before = s.before) _ _ _ rfl (P_c (P := fun x : Inn => x.before = s.before) _ _ _ rfl rfl)
@[reducible] def Sa (t : Inn) (a b e f g : Int) : Inn := ⟨t.side, t.target, t.overs, a, t.wickets, b, e, f, g, t.pens, t.complete, t.inover, t.striker, t.other, t.batters, t.bowler, t.bowlers, t.before, t.fresh, t.bowled, t.freehit, t.ballage, t.keeper, t.outside, t.subs, t.rev1, t.rev2, t.ending⟩
def TZ (r : Rul) (s : Inn) (d : Del) : Inn × Int :=
  cond (!(Nx r s d == 0)) (s, Nx r s d)
    (let c := EN r d
     let t := Dl s d
     let o := JA r (Sa t (IntKind.i64.wrap (t.runs + Yo c)) (IntKind.i64.wrap (t.wides + c.wides)) (IntKind.i64.wrap (t.noballs + c.noballs)) (IntKind.i64.wrap (t.byes + c.byes)) (IntKind.i64.wrap (t.legbyes + c.legbyes))) c.counts
     let t : Inn := cond o.2 (aH o.1) o.1
     ({ t with freehit := cond (d.type == 1) false (cond (d.type == 3 && r.freehit) true o.1.freehit) }, 0))
theorem XD {N : Nat} {r1 r2 r3 r4 r5 r6 r7 r9 r10 r11 r12 : Int} {r8 : Bool} {r0 : ByteArray} {r13 : Rows} {s0 s1 s2 s3 s4 s5 s6 s7 s8 s9 s10 s11 s12 s13 s15 s21 s22 s23 s25 s26 s27 : Int} {s18 s20 : Bool} {s14 s16 s17 s19 s24 : Rows} {d0 d1 d2 d3 d4 d6 d7 d8 d9 d11 : Int} {d5 d10 : Bool} (h : Fit s14 s16 s17 s19 s24) (hw : s17.length + s16.length ≤ 1000000) (hN : 2097152 < N) (hs : r0.size ≤ 1048576) (h13 : r13.length ≤ 1048576) : Fq N [.str r0, .int r1, .int r2, .int r3, .int r4, .int r5, .int r6, .int r7, .bool r8, .int r9, .int r10, .int r11, .int r12, .rows r13, .int s0, .int s1, .int s2, .int s3, .int s4, .int s5, .int s6, .int s7, .int s8, .int s9, .int s10, .int s11, .int s12, .int s13, .rows s14, .int s15, .rows s16, .rows s17, .bool s18, .rows s19, .bool s20, .int s21, .int s22, .int s23, .rows s24, .int s25, .int s26, .int s27, .int d0, .int d1, .int d2, .int d3, .int d4, .bool d5, .int d6, .int d7, .int d8, .int d9, .bool d10, .int d11] = some (A5 (TZ (⟨r0, r1, r2, r3, r4, r5, r6, r7, r8, r9, r10, r11, r12, r13⟩ : Rul) (⟨s0, s1, s2, s3, s4, s5, s6, s7, s8, s9, s10, s11, s12, s13, s14, s15, s16, s17, s18, s19, s20, s21, s22, s23, s24, s25, s26, s27⟩ : Inn) (⟨d0, d1, d2, d3, d4, d5, d6, d7, d8, d9, d10, d11⟩ : Del))) := by
 show Hj (std (BR N) N) (xOf _) = _
 generalize hres : (some (A5 (TZ (⟨r0, r1, r2, r3, r4, r5, r6, r7, r8, r9, r10, r11, r12, r13⟩ : Rul) (⟨s0, s1, s2, s3, s4, s5, s6, s7, s8, s9, s10, s11, s12, s13, s14, s15, s16, s17, s18, s19, s20, s21, s22, s23, s24, s25, s26, s27⟩ : Inn) (⟨d0, d1, d2, d3, d4, d5, d6, d7, d8, d9, d10, d11⟩ : Del))) : Option (List PV)) = RR
 have l1 := ZY (⟨s0, s1, s2, s3, s4, s5, s6, s7, s8, s9, s10, s11, s12, s13, s14, s15, s16, s17, s18, s19, s20, s21, s22, s23, s24, s25, s26, s27⟩ : Inn) (⟨d0, d1, d2, d3, d4, d5, d6, d7, d8, d9, d10, d11⟩ : Del)
 have f1 := QE l1 h (by simp only; omega)
 have w1 : (Dl (⟨s0, s1, s2, s3, s4, s5, s6, s7, s8, s9, s10, s11, s12, s13, s14, s15, s16, s17, s18, s19, s20, s21, s22, s23, s24, s25, s26, s27⟩ : Inn) (⟨d0, d1, d2, d3, d4, d5, d6, d7, d8, d9, d10, d11⟩ : Del)).bowlers.length = s16.length := congrArg List.length (cG _ _)
 have w2 : (Dl (⟨s0, s1, s2, s3, s4, s5, s6, s7, s8, s9, s10, s11, s12, s13, s14, s15, s16, s17, s18, s19, s20, s21, s22, s23, s24, s25, s26, s27⟩ : Inn) (⟨d0, d1, d2, d3, d4, d5, d6, d7, d8, d9, d10, d11⟩ : Del)).before.length = s17.length := congrArg List.length (dA _ _)
 have l2 := fun (x : Rul) (c : Bool) (a b e f g : Int) => Xb x (Sa (Dl (⟨s0, s1, s2, s3, s4, s5, s6, s7, s8, s9, s10, s11, s12, s13, s14, s15, s16, s17, s18, s19, s20, s21, s22, s23, s24, s25, s26, s27⟩ : Inn) (⟨d0, d1, d2, d3, d4, d5, d6, d7, d8, d9, d10, d11⟩ : Del)) a b e f g) c
 have f2 := fun (x : Rul) (c : Bool) (a b e f g : Int) => QE (l2 x c a b e f g) f1 (show (Dl (⟨s0, s1, s2, s3, s4, s5, s6, s7, s8, s9, s10, s11, s12, s13, s14, s15, s16, s17, s18, s19, s20, s21, s22, s23, s24, s25, s26, s27⟩ : Inn) (⟨d0, d1, d2, d3, d4, d5, d6, d7, d8, d9, d10, d11⟩ : Del)).before.length + (Dl (⟨s0, s1, s2, s3, s4, s5, s6, s7, s8, s9, s10, s11, s12, s13, s14, s15, s16, s17, s18, s19, s20, s21, s22, s23, s24, s25, s26, s27⟩ : Inn) (⟨d0, d1, d2, d3, d4, d5, d6, d7, d8, d9, d10, d11⟩ : Del)).bowlers.length ≤ 1048575 by omega)
 simp only [Hj, Lm, Km, Kn, NQ, Ky, NR, Lr, std, xOf, PXb, PXc, PXn, PXm, Nat.reduceAdd, Int.reduceBEq, T6 h hN h13, Bg h, UC, YV h, Ux, Cre.ls, ZE f1 (show (Dl (⟨s0, s1, s2, s3, s4, s5, s6, s7, s8, s9, s10, s11, s12, s13, s14, s15, s16, s17, s18, s19, s20, s21, s22, s23, s24, s25, s26, s27⟩ : Inn) (⟨d0, d1, d2, d3, d4, d5, d6, d7, d8, d9, d10, d11⟩ : Del)).bowlers.length ≤ 1048575 by omega) hN hs, dj, WC (f2 _ _ _ _ _ _ _)]
 subst hres; simp only [TZ, Sa]
 cases Nx (⟨r0, r1, r2, r3, r4, r5, r6, r7, r8, r9, r10, r11, r12, r13⟩ : Rul) (⟨s0, s1, s2, s3, s4, s5, s6, s7, s8, s9, s10, s11, s12, s13, s14, s15, s16, s17, s18, s19, s20, s21, s22, s23, s24, s25, s26, s27⟩ : Inn) (⟨d0, d1, d2, d3, d4, d5, d6, d7, d8, d9, d10, d11⟩ : Del) == 0 with
 | false => rfl
 | true =>
  obtain ⟨o, ho⟩ : ∃ o, o = JA (⟨r0, r1, r2, r3, r4, r5, r6, r7, r8, r9, r10, r11, r12, r13⟩ : Rul) (Sa (Dl (⟨s0, s1, s2, s3, s4, s5, s6, s7, s8, s9, s10, s11, s12, s13, s14, s15, s16, s17, s18, s19, s20, s21, s22, s23, s24, s25, s26, s27⟩ : Inn) (⟨d0, d1, d2, d3, d4, d5, d6, d7, d8, d9, d10, d11⟩ : Del)) (IntKind.i64.wrap ((Dl (⟨s0, s1, s2, s3, s4, s5, s6, s7, s8, s9, s10, s11, s12, s13, s14, s15, s16, s17, s18, s19, s20, s21, s22, s23, s24, s25, s26, s27⟩ : Inn) (⟨d0, d1, d2, d3, d4, d5, d6, d7, d8, d9, d10, d11⟩ : Del)).runs + Yo (EN (⟨r0, r1, r2, r3, r4, r5, r6, r7, r8, r9, r10, r11, r12, r13⟩ : Rul) (⟨d0, d1, d2, d3, d4, d5, d6, d7, d8, d9, d10, d11⟩ : Del)))) (IntKind.i64.wrap ((Dl (⟨s0, s1, s2, s3, s4, s5, s6, s7, s8, s9, s10, s11, s12, s13, s14, s15, s16, s17, s18, s19, s20, s21, s22, s23, s24, s25, s26, s27⟩ : Inn) (⟨d0, d1, d2, d3, d4, d5, d6, d7, d8, d9, d10, d11⟩ : Del)).wides + (EN (⟨r0, r1, r2, r3, r4, r5, r6, r7, r8, r9, r10, r11, r12, r13⟩ : Rul) (⟨d0, d1, d2, d3, d4, d5, d6, d7, d8, d9, d10, d11⟩ : Del)).wides)) (IntKind.i64.wrap ((Dl (⟨s0, s1, s2, s3, s4, s5, s6, s7, s8, s9, s10, s11, s12, s13, s14, s15, s16, s17, s18, s19, s20, s21, s22, s23, s24, s25, s26, s27⟩ : Inn) (⟨d0, d1, d2, d3, d4, d5, d6, d7, d8, d9, d10, d11⟩ : Del)).noballs + (EN (⟨r0, r1, r2, r3, r4, r5, r6, r7, r8, r9, r10, r11, r12, r13⟩ : Rul) (⟨d0, d1, d2, d3, d4, d5, d6, d7, d8, d9, d10, d11⟩ : Del)).noballs)) (IntKind.i64.wrap ((Dl (⟨s0, s1, s2, s3, s4, s5, s6, s7, s8, s9, s10, s11, s12, s13, s14, s15, s16, s17, s18, s19, s20, s21, s22, s23, s24, s25, s26, s27⟩ : Inn) (⟨d0, d1, d2, d3, d4, d5, d6, d7, d8, d9, d10, d11⟩ : Del)).byes + (EN (⟨r0, r1, r2, r3, r4, r5, r6, r7, r8, r9, r10, r11, r12, r13⟩ : Rul) (⟨d0, d1, d2, d3, d4, d5, d6, d7, d8, d9, d10, d11⟩ : Del)).byes)) (IntKind.i64.wrap ((Dl (⟨s0, s1, s2, s3, s4, s5, s6, s7, s8, s9, s10, s11, s12, s13, s14, s15, s16, s17, s18, s19, s20, s21, s22, s23, s24, s25, s26, s27⟩ : Inn) (⟨d0, d1, d2, d3, d4, d5, d6, d7, d8, d9, d10, d11⟩ : Del)).legbyes + (EN (⟨r0, r1, r2, r3, r4, r5, r6, r7, r8, r9, r10, r11, r12, r13⟩ : Rul) (⟨d0, d1, d2, d3, d4, d5, d6, d7, d8, d9, d10, d11⟩ : Del)).legbyes))) (EN (⟨r0, r1, r2, r3, r4, r5, r6, r7, r8, r9, r10, r11, r12, r13⟩ : Rul) (⟨d0, d1, d2, d3, d4, d5, d6, d7, d8, d9, d10, d11⟩ : Del)).counts := ⟨_, rfl⟩
  simp only [Sa, Yo] at ho ⊢
  simp only [← ho]
  obtain ⟨o1, o2⟩ := o
  cases o2 <;> cases d0 == 1 <;> cases d0 == 3 <;> cases r8 <;> rfl
theorem dD (r : Rul) (s : Inn) (b : Bool) (a c d e f : Int) : JA r (Sa s a c d e f) b = (Sa (JA r s b).1 a c d e f, (JA r s b).2) := by
 unfold JA Sa
 simp only
 cases (!inR s.bowler s.bowled.length || !(Ci r == 0)) with
 | true => rfl
 | false =>
  simp only [cond_false]
  cases iLt (cond b (inc s.inover) s.inover) r.balls <;> rfl
def LJ (r : Rul) (s : Inn) (side : Int) : Inn × Int := cond (!(side == s.side)) (s, 2) (cond (!(r.overs == 0)) (s, 20) ({ s with ending := 4 }, 0))
theorem UA {N : Nat} {r1 r2 r3 r4 r5 r6 r7 r9 r10 r11 r12 : Int} {r8 : Bool} {r0 : ByteArray} {r13 : Rows} {s0 s1 s2 s3 s4 s5 s6 s7 s8 s9 s10 s11 s12 s13 s15 s21 s22 s23 s25 s26 s27 : Int} {s18 s20 : Bool} {s14 s16 s17 s19 s24 : Rows} {e0 e1 e2 e3 e5 e6 e7 e8 e9 e10 e11 e13 e14 e15 e16 e18 : Int} {e4 e12 e17 : Bool} (h : Fit s14 s16 s17 s19 s24) : DX N [.str r0, .int r1, .int r2, .int r3, .int r4, .int r5, .int r6, .int r7, .bool r8, .int r9, .int r10, .int r11, .int r12, .rows r13, .int s0, .int s1, .int s2, .int s3, .int s4, .int s5, .int s6, .int s7, .int s8, .int s9, .int s10, .int s11, .int s12, .int s13, .rows s14, .int s15, .rows s16, .rows s17, .bool s18, .rows s19, .bool s20, .int s21, .int s22, .int s23, .rows s24, .int s25, .int s26, .int s27, .int e0, .int e1, .int e2, .int e3, .bool e4, .int e5, .int e6, .int e7, .int e8, .int e9, .int e10, .int e11, .bool e12, .int e13, .int e14, .int e15, .int e16, .bool e17, .int e18] = some (A5 (LJ (⟨r0, r1, r2, r3, r4, r5, r6, r7, r8, r9, r10, r11, r12, r13⟩ : Rul) (⟨s0, s1, s2, s3, s4, s5, s6, s7, s8, s9, s10, s11, s12, s13, s14, s15, s16, s17, s18, s19, s20, s21, s22, s23, s24, s25, s26, s27⟩ : Inn) e1)) := by
 show FC (std (Gq N) N) (xOf _) = _
 generalize hres : (some (A5 (LJ (⟨r0, r1, r2, r3, r4, r5, r6, r7, r8, r9, r10, r11, r12, r13⟩ : Rul) (⟨s0, s1, s2, s3, s4, s5, s6, s7, s8, s9, s10, s11, s12, s13, s14, s15, s16, s17, s18, s19, s20, s21, s22, s23, s24, s25, s26, s27⟩ : Inn) e1)) : Option (List PV)) = RR
 simp only [FC, Jr, std, xOf, PXb, PXc, PXn, PXm, Nat.reduceAdd, Int.reduceBEq, Bg h]
 subst hres; simp only [LJ]
 cases e1 == s0 <;> cases r3 == 0 <;> rfl
def Sc (s : Inn) : Inn := { s with runs := IntKind.i64.wrap (s.runs + 5), pens := IntKind.i64.wrap (s.pens + 5) }
theorem ND {N : Nat} {s0 s1 s2 s3 s4 s5 s6 s7 s8 s9 s10 s11 s12 s13 s15 s21 s22 s23 s25 s26 s27 : Int} {s18 s20 : Bool} {s14 s16 s17 s19 s24 : Rows} (h : Fit s14 s16 s17 s19 s24) : Bc N [.int s0, .int s1, .int s2, .int s3, .int s4, .int s5, .int s6, .int s7, .int s8, .int s9, .int s10, .int s11, .int s12, .int s13, .rows s14, .int s15, .rows s16, .rows s17, .bool s18, .rows s19, .bool s20, .int s21, .int s22, .int s23, .rows s24, .int s25, .int s26, .int s27] = some (Sc (⟨s0, s1, s2, s3, s4, s5, s6, s7, s8, s9, s10, s11, s12, s13, s14, s15, s16, s17, s18, s19, s20, s21, s22, s23, s24, s25, s26, s27⟩ : Inn)).ls := by
 show FD (std (Gt N) N) (xOf _) = _
 generalize hres : (some (Sc (⟨s0, s1, s2, s3, s4, s5, s6, s7, s8, s9, s10, s11, s12, s13, s14, s15, s16, s17, s18, s19, s20, s21, s22, s23, s24, s25, s26, s27⟩ : Inn)).ls : Option (List PV)) = RR
 simp only [FD, Jq, std, xOf, PXb, PXc, PXn, PXm, Nat.reduceAdd, Int.reduceBEq, Bg h]
 subst hres; simp only [Sc]
 rfl
def LA (s : Inn) (side runs : Int) : Inn × Int :=
 cond (!(runs == 5)) (s, 23) (cond (side == s.side) (Sc s, 0) ({ s with target := cond (iLt 0 s.target) (IntKind.i64.wrap (s.target + 5)) s.target }, 0))
theorem T0 {N : Nat} {s0 s1 s2 s3 s4 s5 s6 s7 s8 s9 s10 s11 s12 s13 s15 s21 s22 s23 s25 s26 s27 : Int} {s18 s20 : Bool} {s14 s16 s17 s19 s24 : Rows} {e0 e1 e2 e3 e5 e6 e7 e8 e9 e10 e11 e13 e14 e15 e16 e18 : Int} {e4 e12 e17 : Bool} (h : Fit s14 s16 s17 s19 s24) : DI N [.int s0, .int s1, .int s2, .int s3, .int s4, .int s5, .int s6, .int s7, .int s8, .int s9, .int s10, .int s11, .int s12, .int s13, .rows s14, .int s15, .rows s16, .rows s17, .bool s18, .rows s19, .bool s20, .int s21, .int s22, .int s23, .rows s24, .int s25, .int s26, .int s27, .int e0, .int e1, .int e2, .int e3, .bool e4, .int e5, .int e6, .int e7, .int e8, .int e9, .int e10, .int e11, .bool e12, .int e13, .int e14, .int e15, .int e16, .bool e17, .int e18] = some (A5 (LA (⟨s0, s1, s2, s3, s4, s5, s6, s7, s8, s9, s10, s11, s12, s13, s14, s15, s16, s17, s18, s19, s20, s21, s22, s23, s24, s25, s26, s27⟩ : Inn) e1 e5)) := by
 show FO (std (EF N) N) (xOf _) = _
 generalize hres : (some (A5 (LA (⟨s0, s1, s2, s3, s4, s5, s6, s7, s8, s9, s10, s11, s12, s13, s14, s15, s16, s17, s18, s19, s20, s21, s22, s23, s24, s25, s26, s27⟩ : Inn) e1 e5)) : Option (List PV)) = RR
 simp only [FO, Jm, IZ, std, xOf, PXb, PXc, PXn, PXm, Nat.reduceAdd, Int.reduceBEq, Bg h, ND h]
 subst hres; simp only [LA]
 cases e5 == 5 <;> cases e1 == s0 <;> cases iLt 0 s1 <;> rfl
def LH (r : Rul) (s : Inn) (side : Int) (yes : Bool) : Inn × Int :=
 cond (!s.fresh || iLe r.reviews (cond (side == 2) s.rev2 s.rev1)) (s, 24) (cond (!yes) ({ s with rev1 := cond (side == 1) (inc s.rev1) s.rev1, rev2 := cond (side == 2) (inc s.rev2) s.rev2 }, 0) (s, 0))
theorem wr1 : IntKind.i64.wrap (1 - 1) = 0 := rfl
theorem wr2 : IntKind.i64.wrap (2 - 1) = 1 := rfl
theorem Yd : iIn 0 2 = true := rfl
theorem Zh : iIn 1 2 = true := rfl
theorem VN {N : Nat} {r1 r2 r3 r4 r5 r6 r7 r9 r10 r11 r12 : Int} {r8 : Bool} {r0 : ByteArray} {r13 : Rows} {s0 s1 s2 s3 s4 s5 s6 s7 s8 s9 s10 s11 s12 s13 s15 s21 s22 s23 s25 s26 s27 : Int} {s18 s20 : Bool} {s14 s16 s17 s19 s24 : Rows} {e0 e1 e2 e3 e5 e6 e7 e8 e9 e10 e11 e13 e14 e15 e16 e18 : Int} {e4 e12 e17 : Bool} (h : Fit s14 s16 s17 s19 s24) (he : e1 = 1 ∨ e1 = 2) : Du N [.str r0, .int r1, .int r2, .int r3, .int r4, .int r5, .int r6, .int r7, .bool r8, .int r9, .int r10, .int r11, .int r12, .rows r13, .int s0, .int s1, .int s2, .int s3, .int s4, .int s5, .int s6, .int s7, .int s8, .int s9, .int s10, .int s11, .int s12, .int s13, .rows s14, .int s15, .rows s16, .rows s17, .bool s18, .rows s19, .bool s20, .int s21, .int s22, .int s23, .rows s24, .int s25, .int s26, .int s27, .int e0, .int e1, .int e2, .int e3, .bool e4, .int e5, .int e6, .int e7, .int e8, .int e9, .int e10, .int e11, .bool e12, .int e13, .int e14, .int e15, .int e16, .bool e17, .int e18] = some (A5 (LH (⟨r0, r1, r2, r3, r4, r5, r6, r7, r8, r9, r10, r11, r12, r13⟩ : Rul) (⟨s0, s1, s2, s3, s4, s5, s6, s7, s8, s9, s10, s11, s12, s13, s14, s15, s16, s17, s18, s19, s20, s21, s22, s23, s24, s25, s26, s27⟩ : Inn) e1 e4)) := by
 show Dr (std (Hd N) N) (xOf _) = _
 generalize hres : (some (A5 (LH (⟨r0, r1, r2, r3, r4, r5, r6, r7, r8, r9, r10, r11, r12, r13⟩ : Rul) (⟨s0, s1, s2, s3, s4, s5, s6, s7, s8, s9, s10, s11, s12, s13, s14, s15, s16, s17, s18, s19, s20, s21, s22, s23, s24, s25, s26, s27⟩ : Inn) e1 e4)) : Option (List PV)) = RR
 rcases he with he | he <;> subst he
 ·simp only [Dr, E1, std, xOf, PXb, PXc, PXn, PXm, Nat.reduceAdd, Int.reduceBEq, Bg h, wr1, wr2, Yd, Zh]
  subst hres; simp only [LH, Int.reduceBEq, beq_self_eq_true, cond_true, cond_false]
  cases s18 <;> cases e4 <;> first | rfl | (cases iLe r11 s25 <;> rfl)
 ·simp only [Dr, E1, std, xOf, PXb, PXc, PXn, PXm, Nat.reduceAdd, Int.reduceBEq, Bg h, wr1, wr2, Yd, Zh]
  subst hres; simp only [LH, Int.reduceBEq, beq_self_eq_true, cond_true, cond_false]
  cases s18 <;> cases e4 <;> first | rfl | (cases iLe r11 s26 <;> rfl)
theorem V5 {N : Nat} {r1 r2 r3 r4 r5 r6 r7 r9 r10 r11 r12 : Int} {r8 : Bool} {r0 : ByteArray} {r13 : Rows} {s0 s1 s2 s3 s4 s5 s6 s7 s8 s9 s10 s11 s12 s13 s15 s21 s22 s23 s25 s26 s27 : Int} {s18 s20 : Bool} {s14 s16 s17 s19 s24 : Rows}  : CJ N [.str r0, .int r1, .int r2, .int r3, .int r4, .int r5, .int r6, .int r7, .bool r8, .int r9, .int r10, .int r11, .int r12, .rows r13, .int s0, .int s1, .int s2, .int s3, .int s4, .int s5, .int s6, .int s7, .int s8, .int s9, .int s10, .int s11, .int s12, .int s13, .rows s14, .int s15, .rows s16, .rows s17, .bool s18, .rows s19, .bool s20, .int s21, .int s22, .int s23, .rows s24, .int s25, .int s26, .int s27] = some [.int (ZB r4 s10 s11)] := by
 rfl
def Nn (r : Rul) (s : Inn) (runs overs : Int) : Inn × Int :=
  cond (r.overs == 0 || (runs == 0 && overs == 0)) (s, 25) (cond (iLt 0 runs && (s.target == 0 || iLe runs s.runs)) (s, 25)
    (cond (iLt 0 overs && (iLt r.overs overs || iLt (IntKind.i64.wrap (overs * r.balls)) (ZB r.balls s.complete s.inover))) (s, 25)
      ({ s with target := cond (iLt 0 runs) runs s.target, overs := cond (iLt 0 overs) overs s.overs }, 0)))
theorem Uz {N : Nat} {r1 r2 r3 r4 r5 r6 r7 r9 r10 r11 r12 : Int} {r8 : Bool} {r0 : ByteArray} {r13 : Rows} {s0 s1 s2 s3 s4 s5 s6 s7 s8 s9 s10 s11 s12 s13 s15 s21 s22 s23 s25 s26 s27 : Int} {s18 s20 : Bool} {s14 s16 s17 s19 s24 : Rows} {e0 e1 e2 e3 e5 e6 e7 e8 e9 e10 e11 e13 e14 e15 e16 e18 : Int} {e4 e12 e17 : Bool} (h : Fit s14 s16 s17 s19 s24) : Dy N [.str r0, .int r1, .int r2, .int r3, .int r4, .int r5, .int r6, .int r7, .bool r8, .int r9, .int r10, .int r11, .int r12, .rows r13, .int s0, .int s1, .int s2, .int s3, .int s4, .int s5, .int s6, .int s7, .int s8, .int s9, .int s10, .int s11, .int s12, .int s13, .rows s14, .int s15, .rows s16, .rows s17, .bool s18, .rows s19, .bool s20, .int s21, .int s22, .int s23, .rows s24, .int s25, .int s26, .int s27, .int e0, .int e1, .int e2, .int e3, .bool e4, .int e5, .int e6, .int e7, .int e8, .int e9, .int e10, .int e11, .bool e12, .int e13, .int e14, .int e15, .int e16, .bool e17, .int e18] = some (A5 (Nn (⟨r0, r1, r2, r3, r4, r5, r6, r7, r8, r9, r10, r11, r12, r13⟩ : Rul) (⟨s0, s1, s2, s3, s4, s5, s6, s7, s8, s9, s10, s11, s12, s13, s14, s15, s16, s17, s18, s19, s20, s21, s22, s23, s24, s25, s26, s27⟩ : Inn) e5 e6)) := by
 show F0 (std (E5 N) N) (xOf _) = _
 generalize hres : (some (A5 (Nn (⟨r0, r1, r2, r3, r4, r5, r6, r7, r8, r9, r10, r11, r12, r13⟩ : Rul) (⟨s0, s1, s2, s3, s4, s5, s6, s7, s8, s9, s10, s11, s12, s13, s14, s15, s16, s17, s18, s19, s20, s21, s22, s23, s24, s25, s26, s27⟩ : Inn) e5 e6)) : Option (List PV)) = RR
 simp only [F0, Jy, J5, std, xOf, PXb, PXc, PXn, PXm, Nat.reduceAdd, Int.reduceBEq, Bg h, V5]
 subst hres; simp only [Nn]
 cases (r3 == 0 || e5 == 0 && e6 == 0) <;> try rfl
 cases (iLt 0 e5 && (s1 == 0 || iLe e5 s3)) <;> try rfl
 cases iLt 0 e6 <;> cases iLt r3 e6 <;> try rfl
 simp only [PXb, PXc, PXn, PXm, Nat.reduceAdd, Int.reduceBEq]
 cases iLt (IntKind.i64.wrap (e6 * r4)) (ZB r4 s10 s11) <;> rfl
end Go.Px
end
section
namespace Go.Px
set_option maxRecDepth 100000
def GH (r : Rul) (s : Inn) (e : Ev) : Inn × Int :=
  cond (e.kind == 2) (TY s e.player e.other) (cond (e.kind == 3) (Td r s e.player) (cond (e.kind == 4) (TZ r s e.ball)
    (cond (e.kind == 5) (cond e.yes (Lh s e.player) (QU s e.player)) (cond (e.kind == 6) (Nm s e.player e.yes) (cond (e.kind == 7) (Lg s e.runs)
      (cond (e.kind == 8) (Nl s e.player) (cond (e.kind == 9) (QK s e.player e.yes) (cond (e.kind == 10) (Li r s) (cond (e.kind == 11) (LJ r s e.side)
        (cond (e.kind == 13) (LA s e.side e.runs) (cond (e.kind == 14) (LH r s e.side e.yes) (Nn r s e.runs e.overs))))))))))))
theorem XE {e : Ev} (h : (evS e == 0) = true) : (iLt e.kind 1 || iLt 16 e.kind) = false := by
 unfold evS at h
 cases hk : (iLt e.kind 1 || iLt 16 e.kind) with
 | false => rfl
 | true => rw [hk] at h; cases h
theorem eT {e : Ev} (h : (evS e == 0) = true) (hk : e.kind = 14) : e.side = 1 ∨ e.side = 2 := by
 have h0 := XE h
 unfold evS at h
 rw [h0] at h
 cases h1 : Zr e with
 | true => rw [h1] at h; cases h
 | false =>
  cases h2 : VQ e with
  | true => rw [h1, h2] at h; cases h
  | false =>
   unfold VQ at h2
   rw [Bool.or_eq_false_iff] at h2
   have h3 := h2.1
   rw [hk, show uS 14 = true from rfl, Bool.and_true] at h3
   simp only [btw, iLe, Bool.not_eq_false', Bool.and_eq_true, decide_eq_true_eq] at h3
   omega
set_option maxHeartbeats 4000000 in
theorem Tz {N : Nat} {r1 r2 r3 r4 r5 r6 r7 r9 r10 r11 r12 : Int} {r8 : Bool} {r0 : ByteArray} {r13 : Rows} {s0 s1 s2 s3 s4 s5 s6 s7 s8 s9 s10 s11 s12 s13 s15 s21 s22 s23 s25 s26 s27 : Int} {s18 s20 : Bool} {s14 s16 s17 s19 s24 : Rows} {e0 e1 e2 e3 e5 e6 e7 e8 e9 e10 e11 e13 e14 e15 e16 e18 : Int} {e4 e12 e17 : Bool} (h : Fit s14 s16 s17 s19 s24) (hw : s17.length + s16.length ≤ 1000000) (hN : 2097152 < N) (hs : r0.size ≤ 1048576) (h13 : r13.length ≤ 1048576) (he : (evS (⟨e0, e1, e2, e3, e4, e5, e6, ⟨e7, e8, e9, e10, e11, e12, e13, e14, e15, e16, e17, e18⟩⟩ : Ev) == 0) = true) : DK N [.str r0, .int r1, .int r2, .int r3, .int r4, .int r5, .int r6, .int r7, .bool r8, .int r9, .int r10, .int r11, .int r12, .rows r13, .int s0, .int s1, .int s2, .int s3, .int s4, .int s5, .int s6, .int s7, .int s8, .int s9, .int s10, .int s11, .int s12, .int s13, .rows s14, .int s15, .rows s16, .rows s17, .bool s18, .rows s19, .bool s20, .int s21, .int s22, .int s23, .rows s24, .int s25, .int s26, .int s27, .int e0, .int e1, .int e2, .int e3, .bool e4, .int e5, .int e6, .int e7, .int e8, .int e9, .int e10, .int e11, .bool e12, .int e13, .int e14, .int e15, .int e16, .bool e17, .int e18] = some (A5 (GH (⟨r0, r1, r2, r3, r4, r5, r6, r7, r8, r9, r10, r11, r12, r13⟩ : Rul) (⟨s0, s1, s2, s3, s4, s5, s6, s7, s8, s9, s10, s11, s12, s13, s14, s15, s16, s17, s18, s19, s20, s21, s22, s23, s24, s25, s26, s27⟩ : Inn) (⟨e0, e1, e2, e3, e4, e5, e6, ⟨e7, e8, e9, e10, e11, e12, e13, e14, e15, e16, e17, e18⟩⟩ : Ev))) := by
  show DL (std (AZ N) N) (xOf _) = _
  generalize hres : (some (A5 (GH (⟨r0, r1, r2, r3, r4, r5, r6, r7, r8, r9, r10, r11, r12, r13⟩ : Rul) (⟨s0, s1, s2, s3, s4, s5, s6, s7, s8, s9, s10, s11, s12, s13, s14, s15, s16, s17, s18, s19, s20, s21, s22, s23, s24, s25, s26, s27⟩ : Inn) (⟨e0, e1, e2, e3, e4, e5, e6, ⟨e7, e8, e9, e10, e11, e12, e13, e14, e15, e16, e17, e18⟩⟩ : Ev))) : Option (List PV)) = RR
  have hsd : e0 = 14 → e1 = 1 ∨ e1 = 2 := eT (e := (⟨e0, e1, e2, e3, e4, e5, e6, ⟨e7, e8, e9, e10, e11, e12, e13, e14, e15, e16, e17, e18⟩⟩ : Ev)) he
  rcases Wu (XE he) with hk | hk | hk | hk | hk | hk | hk | hk | hk | hk | hk | hk | hk | hk | hk | hk <;> simp only at hk <;> subst hk <;> clear he
  all_goals (first
    | (have hsd := hsd rfl
       simp only [DL, FB, FW, Ez, D0, Eu, EH, EJ, E3, DQ, EI, Df, De, Dw, D5, std, xOf, PXb, PXc, PXn, PXm, Nat.reduceAdd, Int.reduceBEq, VN h hsd]
       subst hres
       rfl)
    | (simp only [DL, FB, FW, Ez, D0, Eu, EH, EJ, E3, DQ, EI, Df, De, Dw, D5, std, xOf, PXb, PXc, PXn, PXm, Nat.reduceAdd, Int.reduceBEq, Xy h hN, Zi h hN hs, XD h hw hN hs h13, Uv h hN, XT h hN, Vt h hN, WT h, XP h, Sk h, WN h hN hs, UA h, T0 h, Uz h]
       subst hres
       first
       | rfl
       | (cases e4 <;> rfl)))
end Go.Px
end
section
namespace Go.Px
set_option maxRecDepth 100000
theorem Lens.of {s t : Inn} (h1 : t.batters.length = s.batters.length) (h2 : t.bowled.length = s.bowled.length) (h3 : t.subs.length = s.subs.length) (h4 : t.bowlers = s.bowlers) (h5 : t.before = s.before) : Lens s t := ⟨h1, h2, h3, by rw [h4]; omega, by rw [h5]; omega⟩
theorem L_c {s : Inn} (b : Bool) (x y : Inn × Int) (hx : Lens s x.1) (hy : Lens s y.1) : Lens s (cond b x y).1 := by cases b <;> assumption
theorem cV (s : Inn) (p q : Int) : Lens s (TY s p q).1 := by
 unfold TY
 exact L_c _ _ _ (Lens.refl s) (L_c _ _ _ (Lens.refl s) (L_c _ _ _ (Lens.refl s) (Lens.of (by simp [JE]) rfl rfl rfl rfl)))
theorem cQ (r : Rul) (s : Inn) (p : Int) : Lens s (Td r s p).1 := by
 unfold Td
 exact P_c (P := fun x : Inn => Lens s x) _ _ _ (Lens.of rfl rfl rfl rfl rfl) (Lens.refl s)
theorem cC (r : Rul) (s : Inn) (d : Del) : Lens s (TZ r s d).1 := by
 unfold TZ
 refine L_c _ _ _ (Lens.refl s) ?_
 have l1 := ZY s d
 have w1 := cG s d
 have w2 := dA s d
 simp only [dD]
 have l2 := Xb r (Dl s d) (EN r d).counts
 cases (JA r (Dl s d) (EN r d).counts).2
 ·exact ⟨l2.bt.trans l1.bt, l2.bd.trans l1.bd, l2.sb.trans l1.sb, by have := l2.bw; rw [w1] at this; exact this, by have := l2.bf; rw [w1, w2] at this; exact this⟩
 ·exact ⟨l2.bt.trans l1.bt, l2.bd.trans l1.bd, l2.sb.trans l1.sb, by have := l2.bw; rw [w1] at this; exact this, by have := l2.bf; rw [w1, w2] at this; exact this⟩
theorem ZW (s : Inn) (p : Int) : Lens s (Lh s p).1 := by
 unfold Lh
 exact L_c _ _ _ (Lens.of (by simp [JE]) rfl rfl rfl rfl) (Lens.refl s)
theorem bU (s : Inn) (p : Int) : Lens s (QU s p).1 := by
 unfold QU
 exact L_c _ _ _ (Lens.of (by simp [JE]) rfl rfl rfl rfl) (Lens.refl s)
theorem Zy (s : Inn) (p : Int) (b : Bool) : Lens s (Nm s p b).1 := by
 unfold Nm
 exact L_c _ _ _ (Lens.refl s) (L_c _ _ _ (Lens.refl s) (L_c _ _ _ (Lens.refl s) (L_c _ _ _ (Lens.refl s) (Lens.of (by simp [JE]) rfl rfl rfl rfl))))
theorem Yn (s : Inn) (n : Int) : Lens s (Lg s n).1 := by
 unfold Lg
 exact L_c _ _ _ (Lens.refl s) (Lens.of rfl rfl rfl rfl rfl)
theorem aB (s : Inn) (n : Int) : Lens s (Nl s n).1 := by
 unfold Nl
 exact L_c _ _ _ (Lens.refl s) (L_c _ _ _ (Lens.refl s) (L_c _ _ _ (Lens.refl s) (Lens.of rfl rfl rfl rfl rfl)))
theorem ba (s : Inn) (n : Int) (b : Bool) : Lens s (QK s n b).1 := by
 unfold QK
 exact L_c _ _ _ (Lens.refl s) (L_c _ _ _ (Lens.refl s) (Lens.of rfl rfl (by simp [dp]) rfl rfl))
theorem Yy (r : Rul) (s : Inn) : Lens s (Li r s).1 := by
 unfold Li
 exact L_c _ _ _ (Lens.refl s) (Lens.of rfl rfl rfl rfl rfl)
theorem ZN (r : Rul) (s : Inn) (n : Int) : Lens s (LJ r s n).1 := by
 unfold LJ
 exact L_c _ _ _ (Lens.refl s) (L_c _ _ _ (Lens.refl s) (Lens.of rfl rfl rfl rfl rfl))
theorem Zc (s : Inn) (n m : Int) : Lens s (LA s n m).1 := by
 unfold LA
 exact L_c _ _ _ (Lens.refl s) (L_c _ _ _ (Lens.of rfl rfl rfl rfl rfl) (Lens.of rfl rfl rfl rfl rfl))
theorem Zx (r : Rul) (s : Inn) (n : Int) (b : Bool) : Lens s (LH r s n b).1 := by
 unfold LH
 exact L_c _ _ _ (Lens.refl s) (L_c _ _ _ (Lens.of rfl rfl rfl rfl rfl) (Lens.refl s))
theorem Zs (r : Rul) (s : Inn) (n m : Int) : Lens s (Nn r s n m).1 := by
 unfold Nn
 exact L_c _ _ _ (Lens.refl s) (L_c _ _ _ (Lens.refl s) (L_c _ _ _ (Lens.refl s) (Lens.of rfl rfl rfl rfl rfl)))
theorem Si (r : Rul) (s : Inn) (e : Ev) : Lens s (GH r s e).1 := by
  unfold GH
  exact L_c _ _ _ (cV ..) (L_c _ _ _ (cQ ..) (L_c _ _ _ (cC ..) (L_c _ _ _ (L_c _ _ _ (ZW ..) (bU ..)) (L_c _ _ _ (Zy ..) (L_c _ _ _ (Yn ..)
    (L_c _ _ _ (aB ..) (L_c _ _ _ (ba ..) (L_c _ _ _ (Yy ..) (L_c _ _ _ (ZN ..) (L_c _ _ _ (Zc ..) (L_c _ _ _ (Zx ..) (Zs ..))))))))))))
def Ib (r : Rul) (s : Inn) : Bool := Qc r.name r.side r.innings r.overs r.balls r.quota r.wide r.noball r.newball r.followon r.reviews r.outside r.power s.batters s.bowlers s.before s.bowled s.subs s.side s.target s.overs s.runs s.wickets s.wides s.noballs s.byes s.legbyes s.pens s.complete s.inover s.striker s.other s.bowler s.ballage s.keeper s.outside s.rev1 s.rev2 s.ending
def fV (r : Rul) (s : Inn) : Int := dZ (Ib r s) s.batters s.striker s.other s.target s.overs s.runs s.complete
theorem PP {N : Nat} {r1 r2 r3 r4 r5 r6 r7 r9 r10 r11 r12 : Int} {r8 : Bool} {r0 : ByteArray} {r13 : Rows} {s0 s1 s2 s3 s4 s5 s6 s7 s8 s9 s10 s11 s12 s13 s15 s21 s22 s23 s25 s26 s27 : Int} {s18 s20 : Bool} {s14 s16 s17 s19 s24 : Rows} (h : Fit s14 s16 s17 s19 s24) (hN : 2097152 < N) (hs : r0.size ≤ 1048576) : A4 N [.str r0, .int r1, .int r2, .int r3, .int r4, .int r5, .int r6, .int r7, .bool r8, .int r9, .int r10, .int r11, .int r12, .rows r13, .int s0, .int s1, .int s2, .int s3, .int s4, .int s5, .int s6, .int s7, .int s8, .int s9, .int s10, .int s11, .int s12, .int s13, .rows s14, .int s15, .rows s16, .rows s17, .bool s18, .rows s19, .bool s20, .int s21, .int s22, .int s23, .rows s24, .int s25, .int s26, .int s27] = some [.bool (Ib (⟨r0, r1, r2, r3, r4, r5, r6, r7, r8, r9, r10, r11, r12, r13⟩ : Rul) (⟨s0, s1, s2, s3, s4, s5, s6, s7, s8, s9, s10, s11, s12, s13, s14, s15, s16, s17, s18, s19, s20, s21, s22, s23, s24, s25, s26, s27⟩ : Inn))] := by
 exact Og N _ _ _ _ _ _ _ _ _ _ _ _ _ _ _ _ _ _ _ _ _ _ _ _ _ _ _ _ _ _ _ _ _ _ _ _ _ _ _ _ _ _ hN hs h.bt h.bw h.bf h.bd
theorem U1 {N : Nat} {r1 r2 r3 r4 r5 r6 r7 r9 r10 r11 r12 : Int} {r8 : Bool} {r0 : ByteArray} {r13 : Rows} {s0 s1 s2 s3 s4 s5 s6 s7 s8 s9 s10 s11 s12 s13 s15 s21 s22 s23 s25 s26 s27 : Int} {s18 s20 : Bool} {s14 s16 s17 s19 s24 : Rows} (h : Fit s14 s16 s17 s19 s24) (hN : 2097152 < N) (hs : r0.size ≤ 1048576) : Cc N [.str r0, .int r1, .int r2, .int r3, .int r4, .int r5, .int r6, .int r7, .bool r8, .int r9, .int r10, .int r11, .int r12, .rows r13, .int s0, .int s1, .int s2, .int s3, .int s4, .int s5, .int s6, .int s7, .int s8, .int s9, .int s10, .int s11, .int s12, .int s13, .rows s14, .int s15, .rows s16, .rows s17, .bool s18, .rows s19, .bool s20, .int s21, .int s22, .int s23, .rows s24, .int s25, .int s26, .int s27] = some [.int (fV (⟨r0, r1, r2, r3, r4, r5, r6, r7, r8, r9, r10, r11, r12, r13⟩ : Rul) (⟨s0, s1, s2, s3, s4, s5, s6, s7, s8, s9, s10, s11, s12, s13, s14, s15, s16, s17, s18, s19, s20, s21, s22, s23, s24, s25, s26, s27⟩ : Inn))] := by
 exact Tr N _ _ _ _ _ _ _ _ _ _ _ _ _ _ _ _ _ _ _ _ _ _ _ _ _ _ _ _ _ _ _ _ _ _ _ _ _ _ _ _ _ _ hN hs h.bt h.bw h.bf h.bd
def Zm (t : Inn) (b : Bool) : Inn := ⟨t.side, t.target, t.overs, t.runs, t.wickets, t.wides, t.noballs, t.byes, t.legbyes, t.pens, t.complete, t.inover, t.striker, t.other, t.batters, t.bowler, t.bowlers, t.before, b, t.bowled, t.freehit, t.ballage, t.keeper, t.outside, t.subs, t.rev1, t.rev2, t.ending⟩
def Wz (r : Rul) (t : Inn) (b : Bool) : Inn := { Zm t b with ending := cond (t.ending == 0) (fV r (Zm t b)) t.ending }
def eI (s : Inn) (e : Ev) : Bool := e.kind == 1 || e.kind == 12 || e.kind == 16 || (!Dx s.batters && !(e.kind == 2))
def FE (r : Rul) (s : Inn) (e : Ev) : Inn × Int :=
  cond (!Ib r s || !(evS e == 0)) (s, 1) (cond (!(s.ending == 0)) (s, 26) (cond (eI s e) (s, 1)
    (cond (!((GH r s e).2 == 0)) (s, (GH r s e).2) (Wz r (GH r s e).1 (e.kind == 4), 0))))
set_option maxHeartbeats 4000000 in
theorem Lb {N : Nat} {r1 r2 r3 r4 r5 r6 r7 r9 r10 r11 r12 : Int} {r8 : Bool} {r0 : ByteArray} {r13 : Rows} {s0 s1 s2 s3 s4 s5 s6 s7 s8 s9 s10 s11 s12 s13 s15 s21 s22 s23 s25 s26 s27 : Int} {s18 s20 : Bool} {s14 s16 s17 s19 s24 : Rows} {e0 e1 e2 e3 e5 e6 e7 e8 e9 e10 e11 e13 e14 e15 e16 e18 : Int} {e4 e12 e17 : Bool} (h : Fit s14 s16 s17 s19 s24) (hw : s17.length + s16.length ≤ 1000000) (hN : 2097152 < N) (hs : r0.size ≤ 1048576) (h13 : r13.length ≤ 1048576) : Fe N [.str r0, .int r1, .int r2, .int r3, .int r4, .int r5, .int r6, .int r7, .bool r8, .int r9, .int r10, .int r11, .int r12, .rows r13, .int s0, .int s1, .int s2, .int s3, .int s4, .int s5, .int s6, .int s7, .int s8, .int s9, .int s10, .int s11, .int s12, .int s13, .rows s14, .int s15, .rows s16, .rows s17, .bool s18, .rows s19, .bool s20, .int s21, .int s22, .int s23, .rows s24, .int s25, .int s26, .int s27, .int e0, .int e1, .int e2, .int e3, .bool e4, .int e5, .int e6, .int e7, .int e8, .int e9, .int e10, .int e11, .bool e12, .int e13, .int e14, .int e15, .int e16, .bool e17, .int e18] = some (A5 (FE (⟨r0, r1, r2, r3, r4, r5, r6, r7, r8, r9, r10, r11, r12, r13⟩ : Rul) (⟨s0, s1, s2, s3, s4, s5, s6, s7, s8, s9, s10, s11, s12, s13, s14, s15, s16, s17, s18, s19, s20, s21, s22, s23, s24, s25, s26, s27⟩ : Inn) (⟨e0, e1, e2, e3, e4, e5, e6, ⟨e7, e8, e9, e10, e11, e12, e13, e14, e15, e16, e17, e18⟩⟩ : Ev))) := by
 show Hv (std (Bk N) N) (xOf _) = _
 generalize hres : (some (A5 (FE (⟨r0, r1, r2, r3, r4, r5, r6, r7, r8, r9, r10, r11, r12, r13⟩ : Rul) (⟨s0, s1, s2, s3, s4, s5, s6, s7, s8, s9, s10, s11, s12, s13, s14, s15, s16, s17, s18, s19, s20, s21, s22, s23, s24, s25, s26, s27⟩ : Inn) (⟨e0, e1, e2, e3, e4, e5, e6, ⟨e7, e8, e9, e10, e11, e12, e13, e14, e15, e16, e17, e18⟩⟩ : Ev))) : Option (List PV)) = RR
 have l1 := Si (⟨r0, r1, r2, r3, r4, r5, r6, r7, r8, r9, r10, r11, r12, r13⟩ : Rul) (⟨s0, s1, s2, s3, s4, s5, s6, s7, s8, s9, s10, s11, s12, s13, s14, s15, s16, s17, s18, s19, s20, s21, s22, s23, s24, s25, s26, s27⟩ : Inn) (⟨e0, e1, e2, e3, e4, e5, e6, ⟨e7, e8, e9, e10, e11, e12, e13, e14, e15, e16, e17, e18⟩⟩ : Ev)
 have f1 := QE l1 h (by simp only; omega)
 simp only [Hv, Mc, LO, Le, LV, Ea, E9, std, xOf, PXb, PP h hN hs, Ra hN, Bg h, WX h.bt hN]
 subst hres; simp only [FE, eI]
 cases Ib (⟨r0, r1, r2, r3, r4, r5, r6, r7, r8, r9, r10, r11, r12, r13⟩ : Rul) (⟨s0, s1, s2, s3, s4, s5, s6, s7, s8, s9, s10, s11, s12, s13, s14, s15, s16, s17, s18, s19, s20, s21, s22, s23, s24, s25, s26, s27⟩ : Inn)
 ·rfl
 cases he : evS (⟨e0, e1, e2, e3, e4, e5, e6, ⟨e7, e8, e9, e10, e11, e12, e13, e14, e15, e16, e17, e18⟩⟩ : Ev) == 0
 ·simp only [PXb, PXc, PXn, PXm, Nat.reduceAdd, Int.reduceBEq, he]
 simp only [PXb, PXc, PXn, PXm, Nat.reduceAdd, Int.reduceBEq, he]
 cases s27 == 0 <;> try rfl
 cases (e0 == 1 || e0 == 12 || e0 == 16) <;> cases Dx s14 <;> cases e0 == 2 <;> try rfl
 all_goals (simp only [PXb, PXc, PXn, PXm, Nat.reduceAdd, Int.reduceBEq, Ea, E9, Tz h hw hN hs h13 he, U1 f1 hN hs])
 all_goals (unfold Wz Zm; cases (GH (⟨r0, r1, r2, r3, r4, r5, r6, r7, r8, r9, r10, r11, r12, r13⟩ : Rul) (⟨s0, s1, s2, s3, s4, s5, s6, s7, s8, s9, s10, s11, s12, s13, s14, s15, s16, s17, s18, s19, s20, s21, s22, s23, s24, s25, s26, s27⟩ : Inn) (⟨e0, e1, e2, e3, e4, e5, e6, ⟨e7, e8, e9, e10, e11, e12, e13, e14, e15, e16, e17, e18⟩⟩ : Ev)).2 == 0 <;> cases (GH (⟨r0, r1, r2, r3, r4, r5, r6, r7, r8, r9, r10, r11, r12, r13⟩ : Rul) (⟨s0, s1, s2, s3, s4, s5, s6, s7, s8, s9, s10, s11, s12, s13, s14, s15, s16, s17, s18, s19, s20, s21, s22, s23, s24, s25, s26, s27⟩ : Inn) (⟨e0, e1, e2, e3, e4, e5, e6, ⟨e7, e8, e9, e10, e11, e12, e13, e14, e15, e16, e17, e18⟩⟩ : Ev)).1.ending == 0 <;> rfl)
end Go.Px
end
section
namespace Go.Px
set_option maxRecDepth 100000
def eqL (L M : Rows) : Bool := ((L.length : Int) == (M.length : Int)) && !A9 (fun i => !(atI L i 0 == atI M i 0)) L.length 0
def eqB (L M : Rows) : Bool := ((L.length : Int) == (M.length : Int)) && !A9 (fun i => !(atB L i 0 == atB M i 0)) L.length 0
def eqN (s t : Inn) : Bool := s.side == t.side && s.target == t.target && s.overs == t.overs && s.runs == t.runs && s.wickets == t.wickets && (s.wides == t.wides && (s.noballs == t.noballs && (s.byes == t.byes && (s.legbyes == t.legbyes && s.pens == t.pens)))) && s.complete == t.complete && s.inover == t.inover && s.striker == t.striker && s.other == t.other && s.bowler == t.bowler && s.fresh == t.fresh && s.freehit == t.freehit && s.ballage == t.ballage && s.keeper == t.keeper && s.outside == t.outside && s.rev1 == t.rev1 && s.rev2 == t.rev2 && s.ending == t.ending
def Vw (s t : Inn) : Bool := eqL s.batters t.batters && (eqB s.subs t.subs && (eqL s.bowlers t.bowlers && (eqL s.before t.before && (eqL s.bowled t.bowled && eqN s t))))
theorem eB (L : Rows) : eqL L L = true := by
 unfold eqL
 rw [beq_self_eq_true, En.2 (fun j _ _ => by rw [beq_self_eq_true]; rfl)]
 rfl
theorem dh (L : Rows) : eqB L L = true := by
 unfold eqB
 rw [beq_self_eq_true, En.2 (fun j _ _ => by rw [beq_self_eq_true]; rfl)]
 rfl
theorem cM (s : Inn) : Vw s s = true := by
 unfold Vw eqN
 simp only [eB, dh, beq_self_eq_true, Bool.and_self]
theorem XK {i len : Nat} {m : Nat} (h : ((len : Int) == (m : Int)) = true) (hi : i < len) : iIn (i : Int) (m : Int) = true := by
 have := beq_iff_eq.1 h
 exact Al (by omega)
def Qw (r : Rul) : Rul := { r with name := dQ r.name 20, power := cut r.power 10 }
def RK (s : Inn) : Inn := { s with batters := cut s.batters 13, bowlers := cut s.bowlers 13, before := cut s.before 13, bowled := cut s.bowled 13, subs := cut s.subs 13 }
theorem QI (L : Rows) (c : Nat) : (cut L c).length ≤ c := by
 unfold cut
 rw [List.length_drop, List.length_take]
 cases h : iLt (c : Int) (L.length : Int) with
 | true => simp only [cond_true]; omega
 | false => simp only [iLt, decide_eq_false_iff_not] at h; simp only [cond_false]; omega
theorem fO (s : Inn) : (RK s).Fit := ⟨Nat.le_trans (QI _ 13) (by omega), Nat.le_trans (QI _ 13) (by omega), Nat.le_trans (QI _ 13) (by omega), Nat.le_trans (QI _ 13) (by omega), Nat.le_trans (QI _ 13) (by omega)⟩
theorem Ye (r : Rul) (h : r.name.size ≤ 1048576) : (Qw r).name.size ≤ 1048576 := Nat.le_trans (de _ _) h
theorem X3 (r : Rul) : (Qw r).power.length ≤ 1048576 := Nat.le_trans (QI _ 10) (by omega)
theorem Z8 {s t : Inn} (r : Rul) (b : Bool) (h : Lens s t) : Lens s (Wz r t b) := ⟨h.bt, h.bd, h.sb, h.bw, h.bf⟩
theorem Sl (r : Rul) (s : Inn) (e : Ev) : Lens s (FE r s e).1 := by
 unfold FE
 exact L_c _ _ _ (Lens.refl s) (L_c _ _ _ (Lens.refl s) (L_c _ _ _ (Lens.refl s) (L_c _ _ _ (Lens.refl s) (Z8 r _ (Si r s e)))))
end Go.Px
end
section
namespace Go.Px
set_option maxRecDepth 100000
theorem Ti {x a b : Int} : btw x a b = true ↔ a ≤ x ∧ x ≤ b := by simp [btw, iLe]
structure RulOk (r : Rul) : Prop where
 side : 2 ≤ r.side ∧ r.side ≤ 11
 innings : 1 ≤ r.innings ∧ r.innings ≤ 2
 overs : 0 ≤ r.overs ∧ r.overs ≤ 90
 balls : 4 ≤ r.balls ∧ r.balls ≤ 8
 quota : 0 ≤ r.quota ∧ r.quota ≤ 90
 wide : 1 ≤ r.wide ∧ r.wide ≤ 5
 noball : 1 ≤ r.noball ∧ r.noball ≤ 5
 newball : 0 ≤ r.newball ∧ r.newball ≤ 200
 followon : 0 ≤ r.followon ∧ r.followon ≤ 1000
 reviews : 0 ≤ r.reviews ∧ r.reviews ≤ 9
 outside : 0 ≤ r.outside ∧ r.outside ≤ 11
theorem Nv {r : Rul} (h : Ci r = 0) : RulOk r := by
 unfold Ci Ja at h
 cases hn : TE r.name with
 | false => rw [hn] at h; cases h
 | true =>
  cases hr : LP r.side r.innings r.overs r.balls r.quota r.wide r.noball r.newball r.followon r.reviews r.outside with
  | false => rw [hn, hr] at h; cases h
  | true =>
   unfold LP at hr
   simp only [Bool.and_eq_true, Ti] at hr
   obtain ⟨⟨⟨⟨⟨⟨⟨⟨⟨⟨h1, h2⟩, h3⟩, h4⟩, h5⟩, h6⟩, h7⟩, h8⟩, h9⟩, h10⟩, h11⟩ := hr
   exact ⟨h1, h2, h3, h4, h5, h6, h7, h8, h9, h10, h11⟩
def Br (x : Int) : Prop := 0 ≤ x ∧ x ≤ 1000000000
structure InnOk (r : Rul) (s : Inn) : Prop where
 code : Ci r = 0
 side : 1 ≤ s.side ∧ s.side ≤ 2
 lb : (s.batters.length : Int) = r.side
 ld : (s.bowled.length : Int) = r.side
 lz : (s.subs.length : Int) = r.side
 ending : s.ending ≤ 5
 st : 0 ≤ s.striker ∧ s.striker ≤ r.side
 ot : 0 ≤ s.other ∧ s.other ≤ r.side
 bat : Vc s.batters s.striker s.other s.wickets = true
 bow : 0 ≤ s.bowler ∧ s.bowler ≤ r.side
 kee : 0 ≤ s.keeper ∧ s.keeper ≤ r.side
 dw : Ip s.bowlers r.side = true
 df : Ip s.before r.side = true
 ov : W6 r.overs s.overs = true
 io : 0 ≤ s.inover ∧ s.inover ≤ r.balls - 1
 target : Br s.target
 runs : Br s.runs
 wides : Br s.wides
 noballs : Br s.noballs
 byes : Br s.byes
 legbyes : Br s.legbyes
 pens : Br s.pens
 complete : Br s.complete
 ballage : Br s.ballage
 outside : Br s.outside
 rev1 : Br s.rev1
 rev2 : Br s.rev2
 bowled : IK HJ s.bowled = false
theorem ee {x : Int} : HJ x = false ↔ Br x := by
 unfold HJ Br
 rw [Bool.not_eq_false', Ti]
theorem dy (a b c d e f g h i j k l : Int) : IK HJ (ZZ a b c d e f g h i j k l) = false ↔ Br a ∧ Br b ∧ Br c ∧ Br d ∧ Br e ∧ Br f ∧ Br g ∧ Br h ∧ Br i ∧ Br j ∧ Br k ∧ Br l := by
 rw [Lq]
 simp only [ZZ, List.any_cons, List.any_nil, Bool.or_false, Xm, fC, Bool.or_eq_false_iff, ee]
theorem WU {r : Rul} (h : RulOk r) : IntKind.i64.wrap (r.balls - 1) = r.balls - 1 := by
 have := h.balls
 exact IU (by omega) (by omega)
theorem aJ {x : Int} : (!iLt 5 x) = true ↔ x ≤ 5 := by
 rw [Bool.not_eq_true']
 simp only [iLt, decide_eq_false_iff_not]
 omega
theorem cK {r : Rul} {s : Inn} : Ib r s = true ↔ InnOk r s := by
 unfold Ib Qc
 simp only [Bool.and_eq_true, Bool.not_eq_true', dy, Ti]
 constructor
 ·intro ⟨h1, h2, h3, h4, h5, h6, h7, h8, h9, h10, h11, h12, h13, h14, h15, ⟨n1, n2, n3, n4, n5, n6, n7, n8, n9, n10, n11, n12⟩, h17⟩
  have hc : Ci r = 0 := beq_iff_eq.1 h1
  exact ⟨hc, h2, beq_iff_eq.1 h3, beq_iff_eq.1 h4, beq_iff_eq.1 h5, aJ.1 (by rw [h6]; rfl), h7, h8, h9, h10, h11, h12, h13, h14, by rw [WU (Nv hc)] at h15; exact h15, n1, n2, n3, n4, n5, n6, n7, n8, n9, n10, n11, n12, h17⟩
 ·intro h
  have h6 := aJ.2 h.ending
  rw [Bool.not_eq_true'] at h6
  exact ⟨beq_iff_eq.2 h.code, h.side, beq_iff_eq.2 h.lb, beq_iff_eq.2 h.ld, beq_iff_eq.2 h.lz, h6, h.st, h.ot, h.bat, h.bow, h.kee, h.dw, h.df, h.ov, by rw [WU (Nv h.code)]; exact h.io,
   ⟨h.target, h.runs, h.wides, h.noballs, h.byes, h.legbyes, h.pens, h.complete, h.ballage, h.outside, h.rev1, h.rev2⟩, h.bowled⟩
end Go.Px
end
section
namespace Go.Px
set_option maxRecDepth 100000
def eJ : Inn := ⟨0, 0, 0, 0, 0, 0, 0, 0, 0, 0, 0, 0, 0, 0, [], 0, [], [], false, [], false, 0, 0, 0, [], 0, 0, 0⟩
def gN (n : Nat) (overs side t p : Int) : Inn := ⟨side, t, overs, p, 0, 0, 0, 0, 0, p, 0, 0, 0, 0, List.replicate n [.int 0], 0, [], [], false, List.replicate n [.int 0], false, 0, 0, 0, List.replicate n [.bool false], 0, 0, 0⟩
def DS (r : Rul) (side t p : Int) : Inn × Int :=
 cond (!(Ci r == 0)) (eJ, Ci r) (cond (!btw side 1 2 || !btw t 0 1000000 || !btw p 0 1000000) (eJ, 2) (gN r.side.toNat r.overs side t p, 0))
theorem PD {N : Nat} {r1 r2 r3 r4 r5 r6 r7 r9 r10 r11 r12 : Int} {r8 : Bool} {r0 : ByteArray} {r13 : Rows} {a : Int} {b : Int} {c : Int} (hN : 2097152 < N) (hs : r0.size ≤ 1048576) : Ec N [.str r0, .int r1, .int r2, .int r3, .int r4, .int r5, .int r6, .int r7, .bool r8, .int r9, .int r10, .int r11, .int r12, .rows r13, .int a, .int b, .int c] = some (A5 (DS (⟨r0, r1, r2, r3, r4, r5, r6, r7, r8, r9, r10, r11, r12, r13⟩ : Rul) a b c)) := by
 show Gy (std (FG N) N) (xOf _) = _
 generalize hres : (some (A5 (DS (⟨r0, r1, r2, r3, r4, r5, r6, r7, r8, r9, r10, r11, r12, r13⟩ : Rul) a b c)) : Option (List PV)) = RR
 simp only [Gy, ML, Jp, std, xOf, PXb, ER hN hs, Cp]
 subst hres; simp only [DS]
 cases hc : Ci (⟨r0, r1, r2, r3, r4, r5, r6, r7, r8, r9, r10, r11, r12, r13⟩ : Rul) == 0 with
 | false => rfl
 | true =>
  have rk := (Nv (beq_iff_eq.1 hc)).side
  obtain ⟨k, hk⟩ : ∃ k : Nat, r1 = k := ⟨r1.toNat, by simp only at rk; omega⟩
  subst hk
  simp only at rk
  have h1 : iSm (k : Int) 1 = true := KZ (by omega) (by omega)
  have h8 : iSm (k : Int) 8 = true := KZ (by omega) (by omega)
  simp only [PXb, PXc, PXn, PXm, Nat.reduceAdd, Int.reduceBEq, h1, h8]
  cases btw a 1 2 <;> cases btw b 0 1000000 <;> cases btw c 0 1000000 <;> rfl
theorem HY {N : Nat} {L : Rows} {M : Rows} (hN : 2097152 < N) (hl : L.length ≤ 1048576) : Cz N [.rows L, .rows M] = some [.bool (eqL L M)] := by
 show Ek (std (Kd N) N) (xOf _) = _
 simp only [Ek, std, xOf, PXb, PXc, PXn, AG]
 unfold eqL
 cases hm : (L.length : Int) == (M.length : Int) with
 | false => rfl
 | true =>
  simp only [PXb, PXc, PXn, AG]
  refine Ae (E8 (len := L.length) (fun i => !(atI L i 0 == atI M i 0)) [.bool false] ?_ ?_ N (by omega)) ?_
  ·intro self
   simp only [PXb, PXc, PXn, AG, Bh]
  ·intro i self hi
   simp only [PXb, PXc, PXn, AG, Am (show i ≤ 1099511627776 by omega), BF hi, Al hi, XK hm hi, Cf]
  ·cases A9 (fun i => !(atI L i 0 == atI M i 0)) L.length 0 <;> rfl
theorem P7 {N : Nat} {L : Rows} {M : Rows} (hN : 2097152 < N) (hl : L.length ≤ 1048576) : CA N [.rows L, .rows M] = some [.bool (eqL L M)] := by
 show C8 (std (IA N) N) (xOf _) = _
 simp only [C8, std, xOf, PXb, PXc, PXn, AG]
 unfold eqL
 cases hm : (L.length : Int) == (M.length : Int) with
 | false => rfl
 | true =>
  simp only [PXb, PXc, PXn, AG]
  refine Ae (E8 (len := L.length) (fun i => !(atI L i 0 == atI M i 0)) [.bool false] ?_ ?_ N (by omega)) ?_
  ·intro self
   simp only [PXb, PXc, PXn, AG, Bh]
  ·intro i self hi
   simp only [PXb, PXc, PXn, AG, Am (show i ≤ 1099511627776 by omega), BF hi, Al hi, XK hm hi, Cf]
  ·cases A9 (fun i => !(atI L i 0 == atI M i 0)) L.length 0 <;> rfl
theorem R6 {N : Nat} {L : Rows} {M : Rows} (hN : 2097152 < N) (hl : L.length ≤ 1048576) : CW N [.rows L, .rows M] = some [.bool (eqB L M)] := by
 show D7 (std (Jh N) N) (xOf _) = _
 simp only [D7, std, xOf, PXb, PXc, PXn, AG]
 unfold eqB
 cases hm : (L.length : Int) == (M.length : Int) with
 | false => rfl
 | true =>
  simp only [PXb, PXc, PXn, AG]
  refine Ae (E8 (len := L.length) (fun i => !(atB L i 0 == atB M i 0)) [.bool false] ?_ ?_ N (by omega)) ?_
  ·intro self
   simp only [PXb, PXc, PXn, AG, Bh]
  ·intro i self hi
   simp only [PXb, PXc, PXn, AG, Am (show i ≤ 1099511627776 by omega), BF hi, Al hi, XK hm hi, fQ]
  ·cases A9 (fun i => !(atB L i 0 == atB M i 0)) L.length 0 <;> rfl
theorem Uk {N : Nat} {s0 s1 s2 s3 s4 s5 s6 s7 s8 s9 s10 s11 s12 s13 s15 s21 s22 s23 s25 s26 s27 : Int} {s18 s20 : Bool} {s14 s16 s17 s19 s24 : Rows}  : Ds N [.int s0, .int s1, .int s2, .int s3, .int s4, .int s5, .int s6, .int s7, .int s8, .int s9, .int s10, .int s11, .int s12, .int s13, .rows s14, .int s15, .rows s16, .rows s17, .bool s18, .rows s19, .bool s20, .int s21, .int s22, .int s23, .rows s24, .int s25, .int s26, .int s27] = some [.int s0, .int s1, .int s2, .int s3, .int s4, .int s10, .int s11, .int s12, .int s13, .int s15, .int s21, .int s22, .int s23, .int s25, .int s26] := by
 show GG (std (MO N) N) (xOf _) = _
 simp only [GG, std, xOf, PXb, PXc, PXn, PXm, Nat.reduceAdd, Int.reduceBEq]
theorem XU {N : Nat} {s0 s1 s2 s3 s4 s5 s6 s7 s8 s9 s10 s11 s12 s13 s15 s21 s22 s23 s25 s26 s27 : Int} {s18 s20 : Bool} {s14 s16 s17 s19 s24 : Rows} {t0 t1 t2 t3 t4 t5 t6 t7 t8 t9 t10 t11 t12 t13 t15 t21 t22 t23 t25 t26 t27 : Int} {t18 t20 : Bool} {t14 t16 t17 t19 t24 : Rows} (h : Fit s14 s16 s17 s19 s24) (hN : 2097152 < N) : H1 N [.int s0, .int s1, .int s2, .int s3, .int s4, .int s5, .int s6, .int s7, .int s8, .int s9, .int s10, .int s11, .int s12, .int s13, .rows s14, .int s15, .rows s16, .rows s17, .bool s18, .rows s19, .bool s20, .int s21, .int s22, .int s23, .rows s24, .int s25, .int s26, .int s27, .int t0, .int t1, .int t2, .int t3, .int t4, .int t5, .int t6, .int t7, .int t8, .int t9, .int t10, .int t11, .int t12, .int t13, .rows t14, .int t15, .rows t16, .rows t17, .bool t18, .rows t19, .bool t20, .int t21, .int t22, .int t23, .rows t24, .int t25, .int t26, .int t27] = some [.bool (Vw (⟨s0, s1, s2, s3, s4, s5, s6, s7, s8, s9, s10, s11, s12, s13, s14, s15, s16, s17, s18, s19, s20, s21, s22, s23, s24, s25, s26, s27⟩ : Inn) (⟨t0, t1, t2, t3, t4, t5, t6, t7, t8, t9, t10, t11, t12, t13, t14, t15, t16, t17, t18, t19, t20, t21, t22, t23, t24, t25, t26, t27⟩ : Inn))] := by
 show Hp (std (Cb N) N) (xOf _) = _
 generalize hres : (some [.bool (Vw (⟨s0, s1, s2, s3, s4, s5, s6, s7, s8, s9, s10, s11, s12, s13, s14, s15, s16, s17, s18, s19, s20, s21, s22, s23, s24, s25, s26, s27⟩ : Inn) (⟨t0, t1, t2, t3, t4, t5, t6, t7, t8, t9, t10, t11, t12, t13, t14, t15, t16, t17, t18, t19, t20, t21, t22, t23, t24, t25, t26, t27⟩ : Inn))] : Option (List PV)) = RR
 simp only [Hp, IE, Jo, JS, Ku, std, xOf, PXb, PXc, PXn, PXm, Nat.reduceAdd, Int.reduceBEq, P7 hN h.bt, HY hN h.bw', HY hN h.bf, HY hN h.bd, R6 hN h.sb, Uk]
 subst hres; simp only [Vw, eqN]
 refine congrArg (fun z => some [PV.bool z]) ?_
 simp only [Bool.and_assoc, Bool.and_comm, Bool.and_left_comm]
theorem Nh (r : Rul) (side t p : Int) : (DS r side t p).1.Fit ∧ (DS r side t p).1.before = [] ∧ (DS r side t p).1.bowlers = [] := by
 unfold DS
 cases hc : Ci r == 0 with
 | false => exact ⟨⟨by show 0 ≤ 1048576; omega, by show 0 ≤ 1048576; omega, by show 0 ≤ 1048576; omega, by show 0 ≤ 1048576; omega, by show 0 ≤ 1048576; omega⟩, rfl, rfl⟩
 | true =>
  have hs := (Nv (beq_iff_eq.1 hc)).side
  have hl : ∀ x : List PV, (List.replicate r.side.toNat x).length ≤ 1048576 := fun x => by rw [List.length_replicate]; omega
  cases (!btw side 1 2 || !btw t 0 1000000 || !btw p 0 1000000) with
  | true => exact ⟨⟨by show 0 ≤ 1048576; omega, by show 0 ≤ 1048576; omega, by show 0 ≤ 1048576; omega, by show 0 ≤ 1048576; omega, by show 0 ≤ 1048576; omega⟩, rfl, rfl⟩
  | false => exact ⟨⟨hl _, by show 0 ≤ 1048576; omega, by show 0 ≤ 1048576; omega, hl _, hl _⟩, rfl, rfl⟩
theorem ez {s : Inn} (h : s.Fit) : (Sc s).Fit := ⟨h.bt, h.bw, h.bf, h.bd, h.sb⟩
end Go.Px
end
section
namespace Go.Px
set_option maxRecDepth 100000
structure BatOk (L : Rows) (s n wk : Int) : Prop where
 le : ∀ i, i < L.length → atI L i 0 ≤ 3
 at1 : ∀ i, i < L.length → (atI L i 0 = 1 ↔ (s = (i : Int) + 1 ∨ n = (i : Int) + 1))
 here : Dx L = true → s ≠ 0 ∨ n ≠ 0
 ne : s ≠ 0 → s ≠ n
 wk : wk = XR L
end Go.Px
end
section
namespace Go.Px
set_option maxRecDepth 100000
theorem fJ {r : Rul} {s : Inn} (h : InnOk r s) : 2 ≤ r.side ∧ r.side ≤ 11 := (Nv h.code).side
end Go.Px
end
section
namespace Go.Px
set_option maxRecDepth 100000
structure Small (s : Inn) : Prop where
 target : s.target ≤ 999999900
 runs : s.runs ≤ 999999900
 wides : s.wides ≤ 999999900
 noballs : s.noballs ≤ 999999900
 byes : s.byes ≤ 999999900
 legbyes : s.legbyes ≤ 999999900
 pens : s.pens ≤ 999999900
 complete : s.complete ≤ 999999900
 ballage : s.ballage ≤ 999999900
 rev1 : s.rev1 ≤ 999999900
 rev2 : s.rev2 ≤ 999999900
 bowled : ∀ j, j < s.bowled.length → atI s.bowled j 0 ≤ 999999900
end Go.Px
end
